/- Part of the proofs of: the law StateBack: any state as bytes, and back; its graph, its trees, its weight (any parts) (second form: where what is read is of bulk at most 1048576) -/
import Derived.Test.YthbccdlpalenlaaGreatDoorQC
set_option linter.unusedVariables false
set_option linter.unusedSimpArgs false
set_option linter.unusedSectionVars false
section
set_option linter.unusedVariables false
namespace Go.Proofs.YthbccdlpalenlaaGreatDoor
set_option maxHeartbeats 4000000
set_option maxRecDepth 100000
set_option synthInstance.maxSize 2000
set_option synthInstance.maxHeartbeats 1000000
open Go.RowKit Go.V
open Go.S hiding Str
theorem state_reader_many_v5_ct (r_0_b : Nat) (r_0 : StateReader) (r_0_dec_b : Nat) (r_0_dec : CodecDec) (one_1_0_b : Nat) (one_1_0 : StateNow) (one_1_1_b : Nat) {r : CodecDecP × StateReader × StateNowP} (hS : Sh.state_reader_many_v5 r_0 r_0_dec.pl one_1_0.pl = some r) :
 Ct Tryz.prog 142 [ptr r_0_b 0, .func (.func 146) #[] #[ptr one_1_0_b 0, ptr one_1_1_b 0]] (r_0_dec.b.ok.and (r_0_dec.err.ok.and (one_1_0.work.ok.and (one_1_0.index.ok.and (one_1_0.seq_doing.ok.and (one_1_0.seq_todo.ok.and (one_1_0.seq_index.ok.and (one_1_0.seq_work.ok.and (MAl one_1_0.stash.l))))))))) (Ow.star (Blk r_0_dec_b [r_0_dec.b.val, i64 r_0_dec.at_, r_0_dec.err.val] 233) (Ow.star (Blk r_0_b [ptr r_0_dec_b 0, .bool r_0.bad] 161) (Ow.star (Sv.own one_1_0.refs 216) (Ow.star (Sv.own one_1_0.stash 155) (Ow.star (Blk one_1_0_b [one_1_0.work.val, one_1_0.index.val, one_1_0.refs.val, str one_1_0.head_branch, i64 one_1_0.head_commit, str one_1_0.seq_kind, i64 one_1_0.seq_other, str one_1_0.seq_text, one_1_0.seq_doing.val, one_1_0.seq_todo.val, i64 one_1_0.seq_made, str one_1_0.seq_branch, str one_1_0.seq_head_branch, i64 one_1_0.seq_head_commit, one_1_0.seq_index.val, one_1_0.seq_work.val, one_1_0.stash.val] 61) (Blk one_1_1_b [ptr r_0_b 0] 159)))))) (X := CodecDec × StateReader × StateNow) (fun x => .tuple #[]) (fun x => r = (x.1.pl, x.2.1, x.2.2.pl)) (fun x => (x.1.b.ok.and (x.1.err.ok.and (x.2.2.work.ok.and (x.2.2.index.ok.and (x.2.2.seq_doing.ok.and (x.2.2.seq_todo.ok.and (x.2.2.seq_index.ok.and (x.2.2.seq_work.ok.and (MAl x.2.2.stash.l)))))))))) (fun x => Ow.star (Blk r_0_dec_b [x.1.b.val, i64 x.1.at_, x.1.err.val] 233) (Ow.star (Blk r_0_b [ptr r_0_dec_b 0, .bool x.2.1.bad] 161) (Ow.star (Blk one_1_0_b [x.2.2.work.val, x.2.2.index.val, x.2.2.refs.val, str x.2.2.head_branch, i64 x.2.2.head_commit, str x.2.2.seq_kind, i64 x.2.2.seq_other, str x.2.2.seq_text, x.2.2.seq_doing.val, x.2.2.seq_todo.val, i64 x.2.2.seq_made, str x.2.2.seq_branch, str x.2.2.seq_head_branch, i64 x.2.2.seq_head_commit, x.2.2.seq_index.val, x.2.2.seq_work.val, x.2.2.stash.val] 61) (Ow.star (Sv.own x.2.2.refs 216) (Ow.star (Sv.own x.2.2.stash 155) (Blk one_1_1_b [ptr r_0_b 0] 159)))))) := by
 refine Zo Tryz.func142 Tryz.ntmps142 fun c => ?_
 unfold Sh.state_reader_many_v5 at hS
 refine Zq (Zr ?_)
 refine Zm ?_
 refine Zu (q_nilCheck rfl) ?_
 refine Zu (q_field gfa161_0 rfl) ?_
 refine Zu (q_fe gone129 rfl rfl) ?_
 obtain ⟨y10_1, ey10_1, hS⟩ := bd_s hS
 refine VL.callO (codec_Dec_Int_ct r_0_dec_b r_0_dec ey10_1) rfl (by decide) ?_
 rintro ⟨q10_1_0, q10_1_1⟩ rfl
 try dsimp only
 refine Zy ?_
 refine VC.cutJ (S := Bool) (fun (c1_2 : Bool) => c1_2) (fun (c1_2 : Bool) => [(0, ptr r_0_b 0), (1, .func (.func 146) #[] #[ptr one_1_0_b 0, ptr one_1_1_b 0]), (4, i64 q10_1_0)]) (fun (c1_2 : Bool) => Mo.tt) (fun (c1_2 : Bool) => Ow.star (Blk r_0_dec_b [q10_1_1.b.val, i64 q10_1_1.at_, q10_1_1.err.val] 233) (Ow.star (Blk r_0_b [ptr r_0_dec_b 0, .bool c1_2] 161) (Ow.star (Blk one_1_0_b [one_1_0.work.val, one_1_0.index.val, one_1_0.refs.val, str one_1_0.head_branch, i64 one_1_0.head_commit, str one_1_0.seq_kind, i64 one_1_0.seq_other, str one_1_0.seq_text, one_1_0.seq_doing.val, one_1_0.seq_todo.val, i64 one_1_0.seq_made, str one_1_0.seq_branch, str one_1_0.seq_head_branch, i64 one_1_0.seq_head_commit, one_1_0.seq_index.val, one_1_0.seq_work.val, one_1_0.stash.val] 61) (Ow.star (Blk one_1_1_b [ptr r_0_b 0] 159) (Ow.star (Sv.own one_1_0.refs 216) (Ow.star (Sv.own one_1_0.stash 155) (Ow.emp))))))) hS ?_ ?_
 ·
  clear hS
  intro k3 hS
  refine Zr ?_
  refine Zy ?_
  refine Zu (q_nilCheck rfl) ?_
  refine Zu (q_field gfa161_1 rfl) ?_
  refine Zu (q_fe gone4 rfl rfl) ?_
  refine Zm ?_
  refine Zspb 16 hS (fun h16 hS => ?_) (fun h16 hS => ?_)
  ·
   refine VL.runs 3 [(19, some true)] (by kernel_rfl) ?_
   refine Zu (q_nilCheck rfl) ?_
   refine Zu (q_field gfa161_1 rfl) ?_
   refine Zv (vc := [.bool true]) (cs' := [ptr r_0_dec_b 0, .bool true]) rfl gsz4 ?_
   refine VL.mt true [0, 1, 4] (fun _ _ h => h) hS rfl
  refine Zg ?_
  refine Zh (q_lss rfl rfl) ?_
  refine Zf ?_
  refine Zu (q_nilCheck rfl) ?_
  refine Zu (q_field gfa161_1 rfl) ?_
  refine Zv (vc := [.bool (decide (q10_1_0 < 0))]) (cs' := [ptr r_0_dec_b 0, .bool (decide (q10_1_0 < 0))]) rfl gsz4 ?_
  refine VL.mt (decide (q10_1_0 < 0)) [0, 1, 4] (fun _ _ h => h) hS rfl
 clear hS
 rintro c1_2 hS
 refine Zq (Zr ?_)
 refine Zy ?_
 refine Zb ?_
 refine VC.iter (S := Int × Sv UInt8 × Int × Er × Bool × Sv FilesFile × Sv IndexEntry × Sv NamesRef × Str × Int × Str × Int × Str × Sv TodoStep × Sv TodoStep × Int × Str × Str × Int × Sv IndexEntry × Sv FilesFile × Sv ShelfShelf) (fun sg => (sg.1, sg.2.1.l, sg.2.2.1, sg.2.2.2.1.pl, sg.2.2.2.2.1, sg.2.2.2.2.2.1.l, sg.2.2.2.2.2.2.1.l, sg.2.2.2.2.2.2.2.1.l, sg.2.2.2.2.2.2.2.2.1, sg.2.2.2.2.2.2.2.2.2.1, sg.2.2.2.2.2.2.2.2.2.2.1, sg.2.2.2.2.2.2.2.2.2.2.2.1, sg.2.2.2.2.2.2.2.2.2.2.2.2.1, sg.2.2.2.2.2.2.2.2.2.2.2.2.2.1.l, sg.2.2.2.2.2.2.2.2.2.2.2.2.2.2.1.l, sg.2.2.2.2.2.2.2.2.2.2.2.2.2.2.2.1, sg.2.2.2.2.2.2.2.2.2.2.2.2.2.2.2.2.1, sg.2.2.2.2.2.2.2.2.2.2.2.2.2.2.2.2.2.1, sg.2.2.2.2.2.2.2.2.2.2.2.2.2.2.2.2.2.2.1, sg.2.2.2.2.2.2.2.2.2.2.2.2.2.2.2.2.2.2.2.1.l, sg.2.2.2.2.2.2.2.2.2.2.2.2.2.2.2.2.2.2.2.2.1.l, (sg.2.2.2.2.2.2.2.2.2.2.2.2.2.2.2.2.2.2.2.2.2.l.map ShelfShelf.pl))) (fun sg => [(0, ptr r_0_b 0), (1, .func (.func 146) #[] #[ptr one_1_0_b 0, ptr one_1_1_b 0]), (4, i64 q10_1_0), (5, i64 sg.1)]) (fun sg => (sg.2.1.ok.and (sg.2.2.2.1.ok.and (sg.2.2.2.2.2.1.ok.and (sg.2.2.2.2.2.2.1.ok.and (sg.2.2.2.2.2.2.2.2.2.2.2.2.2.1.ok.and (sg.2.2.2.2.2.2.2.2.2.2.2.2.2.2.1.ok.and (sg.2.2.2.2.2.2.2.2.2.2.2.2.2.2.2.2.2.2.2.1.ok.and (sg.2.2.2.2.2.2.2.2.2.2.2.2.2.2.2.2.2.2.2.2.1.ok.and (MAl sg.2.2.2.2.2.2.2.2.2.2.2.2.2.2.2.2.2.2.2.2.2.l)))))))))) (fun sg => Ow.star (Blk r_0_dec_b [sg.2.1.val, i64 sg.2.2.1, sg.2.2.2.1.val] 233) (Ow.star (Blk r_0_b [ptr r_0_dec_b 0, .bool sg.2.2.2.2.1] 161) (Ow.star (Blk one_1_0_b [sg.2.2.2.2.2.1.val, sg.2.2.2.2.2.2.1.val, sg.2.2.2.2.2.2.2.1.val, str sg.2.2.2.2.2.2.2.2.1, i64 sg.2.2.2.2.2.2.2.2.2.1, str sg.2.2.2.2.2.2.2.2.2.2.1, i64 sg.2.2.2.2.2.2.2.2.2.2.2.1, str sg.2.2.2.2.2.2.2.2.2.2.2.2.1, sg.2.2.2.2.2.2.2.2.2.2.2.2.2.1.val, sg.2.2.2.2.2.2.2.2.2.2.2.2.2.2.1.val, i64 sg.2.2.2.2.2.2.2.2.2.2.2.2.2.2.2.1, str sg.2.2.2.2.2.2.2.2.2.2.2.2.2.2.2.2.1, str sg.2.2.2.2.2.2.2.2.2.2.2.2.2.2.2.2.2.1, i64 sg.2.2.2.2.2.2.2.2.2.2.2.2.2.2.2.2.2.2.1, sg.2.2.2.2.2.2.2.2.2.2.2.2.2.2.2.2.2.2.2.1.val, sg.2.2.2.2.2.2.2.2.2.2.2.2.2.2.2.2.2.2.2.2.1.val, sg.2.2.2.2.2.2.2.2.2.2.2.2.2.2.2.2.2.2.2.2.2.val] 61) (Ow.star (Blk one_1_1_b [ptr r_0_b 0] 159) (Ow.star (Sv.own sg.2.2.2.2.2.2.2.1 216) (Ow.star (Sv.own sg.2.2.2.2.2.2.2.2.2.2.2.2.2.2.2.2.2.2.2.2.2 155) (Ow.emp))))))) (0, q10_1_1.b, q10_1_1.at_, q10_1_1.err, c1_2, one_1_0.work, one_1_0.index, one_1_0.refs, one_1_0.head_branch, one_1_0.head_commit, one_1_0.seq_kind, one_1_0.seq_other, one_1_0.seq_text, one_1_0.seq_doing, one_1_0.seq_todo, one_1_0.seq_made, one_1_0.seq_branch, one_1_0.seq_head_branch, one_1_0.seq_head_commit, one_1_0.seq_index, one_1_0.seq_work, one_1_0.stash) [0, 1, 4, 5] hS rfl ?_
 clear hS
 rintro ⟨i5_4, c0_5, c1_6, c2_7, c1_8, c0_9, c1_10, c2_11, c3_12, c4_13, c5_14, c6_15, c7_16, c8_17, c9_18, c10_19, c11_20, c12_21, c13_22, c14_23, c15_24, c16_25⟩ m1 y1 hS hK1
 refine Zq (Zq (Zr ?_))
 refine Zy ?_
 refine Zu (q_lss rfl rfl) ?_
 refine Zm ?_
 refine Zsp 25 hS (fun h25 hS => ?_) (fun h25 hS => ?_)
 ·
  refine Zg ?_
  refine Zh (q_nilCheck rfl) ?_
  refine Zh (q_field gfa161_0 rfl) ?_
  refine Zh (q_fe gone129 rfl rfl) ?_
  refine VL.guard rfl rfl ?_
  obtain ⟨y30_26, ey30_26, hS⟩ := bd_s hS
  refine VL.callO (codec_Dec_Err_ct r_0_dec_b (⟨c0_5, c1_6, c2_7⟩ : CodecDec) ey30_26) rfl (by decide) ?_
  rintro q30_26_0 rfl
  try dsimp only
  refine Zh (q_ereq Tryz.underlying26 rfl) ?_
  refine Zy ?_
  refine VC.keep (ρ' := [(0, ptr r_0_b 0), (1, .func (.func 146) #[] #[ptr one_1_0_b 0, ptr one_1_1_b 0]), (4, i64 q10_1_0), (5, i64 i5_4), (32, .bool (decide (q30_26_0.pl.isNil = true)))]) [0, 1, 4, 5, 32] rfl ?_
  refine Zc hS (fun h32 hS => ?_) (fun h32 hS => ?_)
  ·
   refine Zk ?_
   refine Zq (Zb (Zr ?_))
   refine Zm ?_
   obtain ⟨y36_27, ey36_27, hS⟩ := bd_s hS
   refine VL.callOV (vs := []) (caps := [ptr one_1_0_b 0, ptr one_1_1_b 0]) (state_reader_now_2_ct one_1_0_b (⟨c0_9, c1_10, c2_11, c3_12, c4_13, c5_14, c6_15, c7_16, c8_17, c9_18, c10_19, c11_20, c12_21, c13_22, c14_23, c15_24, c16_25⟩ : StateNow) one_1_1_b r_0_b (⟨c1_8⟩ : StateReader) r_0_dec_b (⟨c0_5, c1_6, c2_7⟩ : CodecDec) ey36_27) rfl rfl (by decide) ?_
   rintro ⟨q36_27_0, q36_27_1, q36_27_2⟩ rfl
   try dsimp only
   refine Zl ?_
   refine Zr ?_
   refine Zm ?_
   obtain ⟨b34, hS⟩ := gd_s hS
   refine Zu (q_add rfl rfl b34) ?_
   refine Za ?_
   refine VL.rnd ((i5_4 + 1), q36_27_1.b, q36_27_1.at_, q36_27_1.err, q36_27_2.bad, q36_27_0.work, q36_27_0.index, q36_27_0.refs, q36_27_0.head_branch, q36_27_0.head_commit, q36_27_0.seq_kind, q36_27_0.seq_other, q36_27_0.seq_text, q36_27_0.seq_doing, q36_27_0.seq_todo, q36_27_0.seq_made, q36_27_0.seq_branch, q36_27_0.seq_head_branch, q36_27_0.seq_head_commit, q36_27_0.seq_index, q36_27_0.seq_work, q36_27_0.stash) [0, 1, 4, 5] (fun _ _ h => h) (go2 hS hK1) rfl
  replace hS := up2 hS hK1
  cases hS
  exact VC.exit (fin0 (.inl rfl) rfl (⟨c0_5, c1_6, c2_7⟩, ⟨c1_8⟩, ⟨c0_9, c1_10, c2_11, c3_12, c4_13, c5_14, c6_15, c7_16, c8_17, c9_18, c10_19, c11_20, c12_21, c13_22, c14_23, c15_24, c16_25⟩) rfl rfl (by (try dsimp only); exact InM.out) (by (try dsimp only); exact EntO.out))
 refine VL.runs 7 [(32, some false)] (by kernel_rfl) ?_
 refine Zl ?_
 refine VC.cond_f rfl ?_
 replace hS := up2 hS hK1
 cases hS
 exact VC.exit (fin0 (.inl rfl) rfl (⟨c0_5, c1_6, c2_7⟩, ⟨c1_8⟩, ⟨c0_9, c1_10, c2_11, c3_12, c4_13, c5_14, c6_15, c7_16, c8_17, c9_18, c10_19, c11_20, c12_21, c13_22, c14_23, c15_24, c16_25⟩) rfl rfl (by (try dsimp only); exact InM.out) (by (try dsimp only); exact EntO.out))
theorem slices_Clip_names_Ref_names_Ref_ct (s_0 : Sv NamesRef) {r : List NamesRef} (hS : Sh.slices_Clip_names_Ref_names_Ref s_0.l = some r) :
 Ct Tryz.prog 147 [s_0.val] s_0.ok (Ow.emp) (X := Sv NamesRef) (fun x => x.val) (fun x => r = x.l) (fun x => x.ok) (fun x => Ow.emp) := by
 refine Zo Tryz.func147 Tryz.ntmps147 fun c => ?_
 unfold Sh.slices_Clip_names_Ref_names_Ref at hS
 refine Zq (Zr ?_)
 refine Zy ?_
 refine Zq (Zr ?_)
 refine Zy ?_
 refine Zu (q_ln (s := s_0) Tryz.underlying52 rfl) ?_
 refine Zm ?_
 refine Zu (q_ln (s := s_0) Tryz.underlying52 rfl) ?_
 obtain ⟨b8, hS⟩ := gd_s hS
 refine VL.stom Tryz.underlying52 gsz216 rfl rfl rfl b8.1 (b8.2) (by decide) fun s8_1 hs8_1 => ?_
 replace hS := lt_to hs8_1 hS
 refine Zy ?_
 cases hS
 exact VC.ret (fin1 (.inr rfl) rfl rfl s8_1 rfl rfl (by (try dsimp only); exact InM.out) (fun _ _ => trivial))
theorem slices_Clip_shelf_Stack_shelf_Shelf_ct (s_0 : Sv ShelfShelf) {r : List ShelfShelfP} (hS : Sh.slices_Clip_shelf_Stack_shelf_Shelf (s_0.l.map ShelfShelf.pl) = some r) :
 Ct Tryz.prog 148 [s_0.val] s_0.ok (Ow.emp) (X := Sv ShelfShelf) (fun x => x.val) (fun x => r = (x.l.map ShelfShelf.pl)) (fun x => x.ok) (fun x => Ow.emp) := by
 refine Zo Tryz.func148 Tryz.ntmps148 fun c => ?_
 unfold Sh.slices_Clip_shelf_Stack_shelf_Shelf at hS
 refine Zq (Zr ?_)
 refine Zy ?_
 refine Zq (Zr ?_)
 refine Zy ?_
 refine Zu (q_lnm ShelfShelf.pl (s := s_0) Tryz.underlying59 rfl) ?_
 refine Zm ?_
 refine Zu (q_lnm ShelfShelf.pl (s := s_0) Tryz.underlying59 rfl) ?_
 obtain ⟨b8, hS⟩ := gd_s hS
 refine VL.stom Tryz.underlying59 gsz155 rfl rfl rfl b8.1 (len_m b8.2) (by decide) fun s8_1 hs8_1 => ?_
 replace hS := lt_to ((congrArg (List.map ShelfShelf.pl) hs8_1).trans List.map_take) hS
 refine Zy ?_
 cases hS
 exact VC.ret (fin1 (.inr rfl) rfl rfl s8_1 rfl rfl (by (try dsimp only); exact InM.out) (fun _ _ => trivial))
theorem state_reader_now_ct (r_0_b : Nat) (r_0 : StateReader) (r_0_dec_b : Nat) (r_0_dec : CodecDec) {r : StateNowP × CodecDecP × StateReader} (hS : Sh.state_reader_now r_0 r_0_dec.pl = some r) :
 Ct Tryz.prog 67 [ptr r_0_b 0] (r_0_dec.b.ok.and r_0_dec.err.ok) (Ow.star (Blk r_0_dec_b [r_0_dec.b.val, i64 r_0_dec.at_, r_0_dec.err.val] 233) (Blk r_0_b [ptr r_0_dec_b 0, .bool r_0.bad] 161)) (X := StateNow × CodecDec × StateReader) (fun x => .agg (Dat.enc x.1).toArray) (fun x => r = (x.1.pl, x.2.1.pl, x.2.2)) (fun x => (x.1.m.and (x.2.1.b.ok.and x.2.1.err.ok))) (fun x => Ow.star (Blk r_0_dec_b [x.2.1.b.val, i64 x.2.1.at_, x.2.1.err.val] 233) (Blk r_0_b [ptr r_0_dec_b 0, .bool x.2.2.bad] 161)) := by
 refine Zo Tryz.func67 Tryz.ntmps67 fun c => ?_
 unfold Sh.state_reader_now at hS
 refine Zq (Zr ?_)
 refine VL.box (cs := [ptr r_0_b 0]) rfl rfl (by decide) fun b1_1 => ?_
 refine VL.alloc (cs := [.slice none 0 0, .slice none 0 0, .slice none 0 0, str [], i64 0, str [], i64 0, str [], .slice none 0 0, .slice none 0 0, i64 0, str [], str [], i64 0, .slice none 0 0, .slice none 0 0, .slice none 0 0]) (by kernel_rfl) (by decide) fun b2_2 => ?_
 refine Zl ?_
 refine Zq ?_
 refine VC.drawG (n := 5) (listed := #[true, false, true, false, false, false, false]) [(0, true), (2, true)] mixed (by kernel_rfl) (by kernel_rfl) (by kernel_rfl) (by kernel_rfl) ?_
 refine VD.q rfl (q_fe gone159 rfl rfl) (by decide) ?_
 refine VD.q rfl (q_fe gone159 rfl rfl) (by decide) ?_
 obtain ⟨y5_3, ey5_3, hS⟩ := bd_s hS
 obtain ⟨y7_4, ey7_4, hS⟩ := bd_s hS
 refine VD.toG fun hcl => ?_
 refine VG.fork (l := [1, 5]) (n := 4) (by kernel_rfl) rfl fun i hi => ?_
 obtain rfl | rfl : i = 1 ∨ i = 5 := by simpa using hi
 ·
  refine VGo.of rfl ?_
  refine VL.callO (state_reader_row_ct r_0_b r_0 r_0_dec_b r_0_dec ey5_3) rfl (by decide) ?_
  rintro ⟨q5_7011_0, q5_7011_1, q5_7011_2⟩ rfl
  try dsimp only
  refine VL.backX (D' := [(2, ptr r_0_b 0)]) (listed' := #[true, true, true, false, false, false, false]) (Pend.cons rfl (q_fe gone159 rfl rfl) (Pend.nil)) (by kernel_rfl) (by kernel_rfl) ?_
  refine VG.fork (l := [3, 5]) (n := 3) (by kernel_rfl) rfl fun i hi => ?_
  obtain rfl | rfl : i = 3 ∨ i = 5 := by simpa using hi
  ·
   refine VGo.of rfl ?_
   refine VL.callO (state_reader_entries_ct r_0_b q5_7011_2 r_0_dec_b q5_7011_1 ey7_4) rfl (by decide) ?_
   rintro ⟨q7_7031_0, q7_7031_1, q7_7031_2⟩ rfl
   try dsimp only
   refine VL.backX (D' := []) (listed' := #[true, true, true, true, false, false, false]) (Pend.nil) (by kernel_rfl) (by kernel_rfl) ?_
   refine VG.ord [(4, true), (5, false), (6, false)] (by kernel_rfl) (closed_of (by kernel_rfl)) (by kernel_rfl) ?_
   refine Zw rfl (q_build (vs := [(0, q5_7011_0.val), (1, q7_7031_0.val)]) (cs := #[q5_7011_0.val, q7_7031_0.val, .slice none 0 0, str [], i64 0, str [], i64 0, str [], .slice none 0 0, .slice none 0 0, i64 0, str [], str [], i64 0, .slice none 0 0, .slice none 0 0, .slice none 0 0]) rfl (by kernel_rfl)) ?_
   refine VD.one rfl ?_
   refine VL.alloc (cs := [.slice none 0 0, .slice none 0 0, .slice none 0 0, str [], i64 0, str [], i64 0, str [], .slice none 0 0, .slice none 0 0, i64 0, str [], str [], i64 0, .slice none 0 0, .slice none 0 0, .slice none 0 0]) (by kernel_rfl) (by decide) fun b3_7051 => ?_
   refine VL.back (D' := [(4, .agg #[q5_7011_0.val, q7_7031_0.val, .slice none 0 0, str [], i64 0, str [], i64 0, str [], .slice none 0 0, .slice none 0 0, i64 0, str [], str [], i64 0, .slice none 0 0, .slice none 0 0, .slice none 0 0])]) (by kernel_rfl) (Pend.cons rfl (q_build (vs := [(0, q5_7011_0.val), (1, q7_7031_0.val)]) (cs := #[q5_7011_0.val, q7_7031_0.val, .slice none 0 0, str [], i64 0, str [], i64 0, str [], .slice none 0 0, .slice none 0 0, i64 0, str [], str [], i64 0, .slice none 0 0, .slice none 0 0, .slice none 0 0]) rfl (by kernel_rfl)) (Pend.nil)) ?_
   refine VD.one rfl ?_
   refine Zv (vc := [q5_7011_0.val, q7_7031_0.val, .slice none 0 0, str [], i64 0, str [], i64 0, str [], .slice none 0 0, .slice none 0 0, i64 0, str [], str [], i64 0, .slice none 0 0, .slice none 0 0, .slice none 0 0]) (cs' := [q5_7011_0.val, q7_7031_0.val, .slice none 0 0, str [], i64 0, str [], i64 0, str [], .slice none 0 0, .slice none 0 0, i64 0, str [], str [], i64 0, .slice none 0 0, .slice none 0 0, .slice none 0 0]) rfl gsz61 ?_
   refine VL.back (D' := []) (by kernel_rfl) (Pend.nil) ?_
   refine VD.to (fun _ _ h => h) ?_
   refine Zq (Zr ?_)
   refine Zu (q_fe gone159 rfl rfl) ?_
   refine Zu (q_mkfn rfl) ?_
   refine VL.nilO (⟨none, 0, []⟩ : Sv NamesRef) 216 ⟨rfl, rfl⟩ ?_
   refine VL.nilO (⟨none, 0, []⟩ : Sv ShelfShelf) 155 ⟨rfl, rfl⟩ ?_
   refine VL.maNil (s := (⟨none, 0, []⟩ : Sv ShelfShelf)) rfl ?_
   refine VL.reB b3_7051 (cs' := [q5_7011_0.val, q7_7031_0.val, (⟨none, 0, []⟩ : Sv NamesRef).val, str [], i64 0, str [], i64 0, str [], (⟨none, 0, []⟩ : Sv TodoStep).val, (⟨none, 0, []⟩ : Sv TodoStep).val, i64 0, str [], str [], i64 0, (⟨none, 0, []⟩ : Sv IndexEntry).val, (⟨none, 0, []⟩ : Sv FilesFile).val, (⟨none, 0, []⟩ : Sv ShelfShelf).val]) rfl ?_
   obtain ⟨y11_5, ey11_5, hS⟩ := bd_s hS
   refine VL.callO (state_reader_many_v3_ct r_0_b q7_7031_2 r_0_dec_b q7_7031_1 b3_7051 (⟨q5_7011_0, q7_7031_0, (⟨none, 0, []⟩ : Sv NamesRef), [], 0, [], 0, [], (⟨none, 0, []⟩ : Sv TodoStep), (⟨none, 0, []⟩ : Sv TodoStep), 0, [], [], 0, (⟨none, 0, []⟩ : Sv IndexEntry), (⟨none, 0, []⟩ : Sv FilesFile), (⟨none, 0, []⟩ : Sv ShelfShelf)⟩ : StateNow) b1_1 ey11_5) rfl (by decide) ?_
   rintro ⟨q11_5_0, q11_5_1, q11_5_2⟩ rfl
   try dsimp only
   refine Zl ?_
   refine VC.keep (ρ' := [(1, ptr b1_1 0), (2, ptr b2_2 0), (3, ptr b3_7051 0)]) [1, 2, 3] rfl ?_
   refine Zq ?_
   refine VC.draw [(0, true), (2, true), (1, false), (4, true), (3, false), (5, false), (6, true), (7, false)] mixed (by kernel_rfl) (by kernel_rfl) (by kernel_rfl) ?_
   refine Zw rfl (q_fe gone159 rfl rfl) ?_
   refine Zw rfl (q_fe gone159 rfl rfl) ?_
   refine VD.one rfl ?_
   obtain ⟨y13_6, ey13_6, hS⟩ := bd_s hS
   refine VL.callO (state_reader_head_ct r_0_b q11_5_1 r_0_dec_b q11_5_0 ey13_6) rfl (by decide) ?_
   rintro ⟨q13_6_0, q13_6_1⟩ rfl
   try dsimp only
   refine VL.back (D' := [(2, ptr r_0_b 0)]) (by kernel_rfl) (Pend.cons rfl (q_fe gone159 rfl rfl) (Pend.nil)) ?_
   refine Zw rfl (q_field gfa61_3 rfl) ?_
   refine VD.one rfl ?_
   obtain ⟨y15_7, ey15_7, hS⟩ := bd_s hS
   refine VL.callO (state_reader_seq_ct r_0_b q11_5_1 r_0_dec_b q13_6_1 ey15_7) rfl (by decide) ?_
   rintro ⟨q15_7_0, q15_7_1, q15_7_2⟩ rfl
   try dsimp only
   refine VL.back (D' := [(4, ptr b3_7051 3)]) (by kernel_rfl) (Pend.cons rfl (q_field gfa61_3 rfl) (Pend.nil)) ?_
   refine VD.one rfl ?_
   refine Zv (vc := [str q13_6_0.branch, i64 q13_6_0.commit]) (cs' := [q11_5_2.work.val, q11_5_2.index.val, q11_5_2.refs.val, str q13_6_0.branch, i64 q13_6_0.commit, str q11_5_2.seq_kind, i64 q11_5_2.seq_other, str q11_5_2.seq_text, q11_5_2.seq_doing.val, q11_5_2.seq_todo.val, i64 q11_5_2.seq_made, str q11_5_2.seq_branch, str q11_5_2.seq_head_branch, i64 q11_5_2.seq_head_commit, q11_5_2.seq_index.val, q11_5_2.seq_work.val, q11_5_2.stash.val]) rfl gsz54 ?_
   refine VL.back (D' := []) (by kernel_rfl) (Pend.nil) ?_
   refine Zw rfl (q_field gfa61_4 rfl) ?_
   refine VD.one rfl ?_
   refine Zv (vc := (zStateSeq q15_7_0)) (cs' := [q11_5_2.work.val, q11_5_2.index.val, q11_5_2.refs.val, str q13_6_0.branch, i64 q13_6_0.commit, str q15_7_0.kind, i64 q15_7_0.other, str q15_7_0.text, q15_7_0.doing.val, q15_7_0.todo.val, i64 q15_7_0.made, str q15_7_0.branch, str q15_7_0.head_branch, i64 q15_7_0.head_commit, q15_7_0.index.val, q15_7_0.work.val, q11_5_2.stash.val]) rfl gsz57 ?_
   refine VL.back (D' := []) (by kernel_rfl) (Pend.nil) ?_
   refine VD.to (fun _ _ h => h) ?_
   refine Zq (Zr ?_)
   refine Zu (q_fe gone159 rfl rfl) ?_
   refine Zu (q_mkfn rfl) ?_
   obtain ⟨y20_8, ey20_8, hS⟩ := bd_s hS
   refine VL.callO (state_reader_many_v5_ct r_0_b q15_7_2 r_0_dec_b q15_7_1 b3_7051 (⟨q11_5_2.work, q11_5_2.index, q11_5_2.refs, q13_6_0.branch, q13_6_0.commit, q15_7_0.kind, q15_7_0.other, q15_7_0.text, q15_7_0.doing, q15_7_0.todo, q15_7_0.made, q15_7_0.branch, q15_7_0.head_branch, q15_7_0.head_commit, q15_7_0.index, q15_7_0.work, q11_5_2.stash⟩ : StateNow) b1_1 ey20_8) rfl (by decide) ?_
   rintro ⟨q20_8_0, q20_8_1, q20_8_2⟩ rfl
   try dsimp only
   refine Zl ?_
   refine VC.keep (ρ' := [(2, ptr b2_2 0), (3, ptr b3_7051 0)]) [2, 3] rfl ?_
   refine Zq ?_
   refine VC.draw [(0, true), (1, true), (3, true), (4, true), (2, false), (6, true), (5, false), (7, false), (8, true), (9, false)] mixed (by kernel_rfl) (by kernel_rfl) (by kernel_rfl) ?_
   refine Zw rfl (q_field gfa61_2 rfl) ?_
   refine Zw rfl (q_fe gone52 rfl rfl) ?_
   refine Zw rfl (q_field gfa61_5 rfl) ?_
   refine Zw rfl (q_fe gone59 rfl rfl) ?_
   refine VD.one rfl ?_
   refine VL.shut q20_8_2.refs 216 (fun _ _ _ _ => trivial) ?_
   obtain ⟨y23_9, ey23_9, hS⟩ := bd_s hS
   refine VL.callF (slices_Clip_names_Ref_names_Ref_ct q20_8_2.refs ey23_9) rfl (by decide) ?_
   rintro q23_9_0 rfl
   try dsimp only
   refine VL.back (D' := [(4, q20_8_2.stash.val), (3, ptr b3_7051 16)]) (by kernel_rfl) (Pend.cons rfl (q_fe gone59 rfl rfl) (Pend.cons rfl (q_field gfa61_5 rfl) (Pend.nil))) ?_
   refine Zw rfl (q_field gfa61_2 rfl) ?_
   refine VD.one rfl ?_
   refine VL.shut q20_8_2.stash 155 (fun h m => InM.out (X := MAl q20_8_2.stash.l) h m) ?_
   obtain ⟨y26_10, ey26_10, hS⟩ := bd_s hS
   refine VL.callF (slices_Clip_shelf_Stack_shelf_Shelf_ct q20_8_2.stash ey26_10) rfl (by decide) ?_
   rintro q26_10_0 rfl
   try dsimp only
   refine VL.back (D' := [(6, ptr b3_7051 2)]) (by kernel_rfl) (Pend.cons rfl (q_field gfa61_2 rfl) (Pend.nil)) ?_
   refine VD.one rfl ?_
   refine Zv (vc := [q23_9_0.val]) (cs' := [q20_8_2.work.val, q20_8_2.index.val, q23_9_0.val, str q20_8_2.head_branch, i64 q20_8_2.head_commit, str q20_8_2.seq_kind, i64 q20_8_2.seq_other, str q20_8_2.seq_text, q20_8_2.seq_doing.val, q20_8_2.seq_todo.val, i64 q20_8_2.seq_made, str q20_8_2.seq_branch, str q20_8_2.seq_head_branch, i64 q20_8_2.seq_head_commit, q20_8_2.seq_index.val, q20_8_2.seq_work.val, q20_8_2.stash.val]) rfl gsz52 ?_
   refine VL.back (D' := []) (by kernel_rfl) (Pend.nil) ?_
   refine Zw rfl (q_field gfa61_5 rfl) ?_
   refine VD.one rfl ?_
   refine Zv (vc := [q26_10_0.val]) (cs' := [q20_8_2.work.val, q20_8_2.index.val, q23_9_0.val, str q20_8_2.head_branch, i64 q20_8_2.head_commit, str q20_8_2.seq_kind, i64 q20_8_2.seq_other, str q20_8_2.seq_text, q20_8_2.seq_doing.val, q20_8_2.seq_todo.val, i64 q20_8_2.seq_made, str q20_8_2.seq_branch, str q20_8_2.seq_head_branch, i64 q20_8_2.seq_head_commit, q20_8_2.seq_index.val, q20_8_2.seq_work.val, q26_10_0.val]) rfl gsz59 ?_
   refine VL.back (D' := []) (by kernel_rfl) (Pend.nil) ?_
   refine VD.to (fun _ _ h => h) ?_
   refine Zq (Zr ?_)
   refine Zu (q_fes gagg61 rfl rfl) ?_
   refine Zv (vc := [q20_8_2.work.val, q20_8_2.index.val, q23_9_0.val, str q20_8_2.head_branch, i64 q20_8_2.head_commit, str q20_8_2.seq_kind, i64 q20_8_2.seq_other, str q20_8_2.seq_text, q20_8_2.seq_doing.val, q20_8_2.seq_todo.val, i64 q20_8_2.seq_made, str q20_8_2.seq_branch, str q20_8_2.seq_head_branch, i64 q20_8_2.seq_head_commit, q20_8_2.seq_index.val, q20_8_2.seq_work.val, q26_10_0.val]) (cs' := [q20_8_2.work.val, q20_8_2.index.val, q23_9_0.val, str q20_8_2.head_branch, i64 q20_8_2.head_commit, str q20_8_2.seq_kind, i64 q20_8_2.seq_other, str q20_8_2.seq_text, q20_8_2.seq_doing.val, q20_8_2.seq_todo.val, i64 q20_8_2.seq_made, str q20_8_2.seq_branch, str q20_8_2.seq_head_branch, i64 q20_8_2.seq_head_commit, q20_8_2.seq_index.val, q20_8_2.seq_work.val, q26_10_0.val]) rfl gsz61 ?_
   refine Zl ?_
   refine VC.keep (ρ' := [(2, ptr b2_2 0)]) [2] rfl ?_
   cases hS
   exact VC.ret (finG (vs := [.agg #[q20_8_2.work.val, q20_8_2.index.val, q23_9_0.val, str q20_8_2.head_branch, i64 q20_8_2.head_commit, str q20_8_2.seq_kind, i64 q20_8_2.seq_other, str q20_8_2.seq_text, q20_8_2.seq_doing.val, q20_8_2.seq_todo.val, i64 q20_8_2.seq_made, str q20_8_2.seq_branch, str q20_8_2.seq_head_branch, i64 q20_8_2.seq_head_commit, q20_8_2.seq_index.val, q20_8_2.seq_work.val, q26_10_0.val]]) (.inr rfl) rfl (RVs.cell gagg61 rfl rfl Rd.blk (RVs.nil)) (⟨q20_8_2.work, q20_8_2.index, q23_9_0, q20_8_2.head_branch, q20_8_2.head_commit, q20_8_2.seq_kind, q20_8_2.seq_other, q20_8_2.seq_text, q20_8_2.seq_doing, q20_8_2.seq_todo, q20_8_2.seq_made, q20_8_2.seq_branch, q20_8_2.seq_head_branch, q20_8_2.seq_head_commit, q20_8_2.seq_index, q20_8_2.seq_work, q26_10_0⟩, ⟨q20_8_0.b, q20_8_0.at_, q20_8_0.err⟩, ⟨q20_8_1.bad⟩) rfl rfl (by (try dsimp only); exact InM.out) (by (try dsimp only); exact EntO.out))
  refine VGo.of rfl ?_
  refine VL.alloc (cs := [.slice none 0 0, .slice none 0 0, .slice none 0 0, str [], i64 0, str [], i64 0, str [], .slice none 0 0, .slice none 0 0, i64 0, str [], str [], i64 0, .slice none 0 0, .slice none 0 0, .slice none 0 0]) (by kernel_rfl) (by decide) fun b3_7051 => ?_
  refine VL.backX (D' := [(2, ptr r_0_b 0)]) (listed' := #[true, true, true, false, false, true, false]) (Pend.cons rfl (q_fe gone159 rfl rfl) (Pend.nil)) (by kernel_rfl) (by kernel_rfl) ?_
  refine VG.ord [(3, false), (4, true), (6, false)] (by kernel_rfl) (closed_of (by kernel_rfl)) (by kernel_rfl) ?_
  refine VD.one rfl ?_
  refine VL.callO (state_reader_entries_ct r_0_b q5_7011_2 r_0_dec_b q5_7011_1 ey7_4) rfl (by decide) ?_
  rintro ⟨q7_7031_0, q7_7031_1, q7_7031_2⟩ rfl
  try dsimp only
  refine VL.back (D' := []) (by kernel_rfl) (Pend.nil) ?_
  refine Zw rfl (q_build (vs := [(0, q5_7011_0.val), (1, q7_7031_0.val)]) (cs := #[q5_7011_0.val, q7_7031_0.val, .slice none 0 0, str [], i64 0, str [], i64 0, str [], .slice none 0 0, .slice none 0 0, i64 0, str [], str [], i64 0, .slice none 0 0, .slice none 0 0, .slice none 0 0]) rfl (by kernel_rfl)) ?_
  refine VD.one rfl ?_
  refine Zv (vc := [q5_7011_0.val, q7_7031_0.val, .slice none 0 0, str [], i64 0, str [], i64 0, str [], .slice none 0 0, .slice none 0 0, i64 0, str [], str [], i64 0, .slice none 0 0, .slice none 0 0, .slice none 0 0]) (cs' := [q5_7011_0.val, q7_7031_0.val, .slice none 0 0, str [], i64 0, str [], i64 0, str [], .slice none 0 0, .slice none 0 0, i64 0, str [], str [], i64 0, .slice none 0 0, .slice none 0 0, .slice none 0 0]) rfl gsz61 ?_
  refine VL.back (D' := []) (by kernel_rfl) (Pend.nil) ?_
  refine VD.to (fun _ _ h => h) ?_
  refine Zq (Zr ?_)
  refine Zu (q_fe gone159 rfl rfl) ?_
  refine Zu (q_mkfn rfl) ?_
  refine VL.nilO (⟨none, 0, []⟩ : Sv NamesRef) 216 ⟨rfl, rfl⟩ ?_
  refine VL.nilO (⟨none, 0, []⟩ : Sv ShelfShelf) 155 ⟨rfl, rfl⟩ ?_
  refine VL.maNil (s := (⟨none, 0, []⟩ : Sv ShelfShelf)) rfl ?_
  refine VL.reB b3_7051 (cs' := [q5_7011_0.val, q7_7031_0.val, (⟨none, 0, []⟩ : Sv NamesRef).val, str [], i64 0, str [], i64 0, str [], (⟨none, 0, []⟩ : Sv TodoStep).val, (⟨none, 0, []⟩ : Sv TodoStep).val, i64 0, str [], str [], i64 0, (⟨none, 0, []⟩ : Sv IndexEntry).val, (⟨none, 0, []⟩ : Sv FilesFile).val, (⟨none, 0, []⟩ : Sv ShelfShelf).val]) rfl ?_
  obtain ⟨y11_5, ey11_5, hS⟩ := bd_s hS
  refine VL.callO (state_reader_many_v3_ct r_0_b q7_7031_2 r_0_dec_b q7_7031_1 b3_7051 (⟨q5_7011_0, q7_7031_0, (⟨none, 0, []⟩ : Sv NamesRef), [], 0, [], 0, [], (⟨none, 0, []⟩ : Sv TodoStep), (⟨none, 0, []⟩ : Sv TodoStep), 0, [], [], 0, (⟨none, 0, []⟩ : Sv IndexEntry), (⟨none, 0, []⟩ : Sv FilesFile), (⟨none, 0, []⟩ : Sv ShelfShelf)⟩ : StateNow) b1_1 ey11_5) rfl (by decide) ?_
  rintro ⟨q11_5_0, q11_5_1, q11_5_2⟩ rfl
  try dsimp only
  refine Zl ?_
  refine VC.keep (ρ' := [(1, ptr b1_1 0), (2, ptr b2_2 0), (3, ptr b3_7051 0)]) [1, 2, 3] rfl ?_
  refine Zq ?_
  refine VC.draw [(0, true), (2, true), (1, false), (4, true), (3, false), (5, false), (6, true), (7, false)] mixed (by kernel_rfl) (by kernel_rfl) (by kernel_rfl) ?_
  refine Zw rfl (q_fe gone159 rfl rfl) ?_
  refine Zw rfl (q_fe gone159 rfl rfl) ?_
  refine VD.one rfl ?_
  obtain ⟨y13_6, ey13_6, hS⟩ := bd_s hS
  refine VL.callO (state_reader_head_ct r_0_b q11_5_1 r_0_dec_b q11_5_0 ey13_6) rfl (by decide) ?_
  rintro ⟨q13_6_0, q13_6_1⟩ rfl
  try dsimp only
  refine VL.back (D' := [(2, ptr r_0_b 0)]) (by kernel_rfl) (Pend.cons rfl (q_fe gone159 rfl rfl) (Pend.nil)) ?_
  refine Zw rfl (q_field gfa61_3 rfl) ?_
  refine VD.one rfl ?_
  obtain ⟨y15_7, ey15_7, hS⟩ := bd_s hS
  refine VL.callO (state_reader_seq_ct r_0_b q11_5_1 r_0_dec_b q13_6_1 ey15_7) rfl (by decide) ?_
  rintro ⟨q15_7_0, q15_7_1, q15_7_2⟩ rfl
  try dsimp only
  refine VL.back (D' := [(4, ptr b3_7051 3)]) (by kernel_rfl) (Pend.cons rfl (q_field gfa61_3 rfl) (Pend.nil)) ?_
  refine VD.one rfl ?_
  refine Zv (vc := [str q13_6_0.branch, i64 q13_6_0.commit]) (cs' := [q11_5_2.work.val, q11_5_2.index.val, q11_5_2.refs.val, str q13_6_0.branch, i64 q13_6_0.commit, str q11_5_2.seq_kind, i64 q11_5_2.seq_other, str q11_5_2.seq_text, q11_5_2.seq_doing.val, q11_5_2.seq_todo.val, i64 q11_5_2.seq_made, str q11_5_2.seq_branch, str q11_5_2.seq_head_branch, i64 q11_5_2.seq_head_commit, q11_5_2.seq_index.val, q11_5_2.seq_work.val, q11_5_2.stash.val]) rfl gsz54 ?_
  refine VL.back (D' := []) (by kernel_rfl) (Pend.nil) ?_
  refine Zw rfl (q_field gfa61_4 rfl) ?_
  refine VD.one rfl ?_
  refine Zv (vc := (zStateSeq q15_7_0)) (cs' := [q11_5_2.work.val, q11_5_2.index.val, q11_5_2.refs.val, str q13_6_0.branch, i64 q13_6_0.commit, str q15_7_0.kind, i64 q15_7_0.other, str q15_7_0.text, q15_7_0.doing.val, q15_7_0.todo.val, i64 q15_7_0.made, str q15_7_0.branch, str q15_7_0.head_branch, i64 q15_7_0.head_commit, q15_7_0.index.val, q15_7_0.work.val, q11_5_2.stash.val]) rfl gsz57 ?_
  refine VL.back (D' := []) (by kernel_rfl) (Pend.nil) ?_
  refine VD.to (fun _ _ h => h) ?_
  refine Zq (Zr ?_)
  refine Zu (q_fe gone159 rfl rfl) ?_
  refine Zu (q_mkfn rfl) ?_
  obtain ⟨y20_8, ey20_8, hS⟩ := bd_s hS
  refine VL.callO (state_reader_many_v5_ct r_0_b q15_7_2 r_0_dec_b q15_7_1 b3_7051 (⟨q11_5_2.work, q11_5_2.index, q11_5_2.refs, q13_6_0.branch, q13_6_0.commit, q15_7_0.kind, q15_7_0.other, q15_7_0.text, q15_7_0.doing, q15_7_0.todo, q15_7_0.made, q15_7_0.branch, q15_7_0.head_branch, q15_7_0.head_commit, q15_7_0.index, q15_7_0.work, q11_5_2.stash⟩ : StateNow) b1_1 ey20_8) rfl (by decide) ?_
  rintro ⟨q20_8_0, q20_8_1, q20_8_2⟩ rfl
  try dsimp only
  refine Zl ?_
  refine VC.keep (ρ' := [(2, ptr b2_2 0), (3, ptr b3_7051 0)]) [2, 3] rfl ?_
  refine Zq ?_
  refine VC.draw [(0, true), (1, true), (3, true), (4, true), (2, false), (6, true), (5, false), (7, false), (8, true), (9, false)] mixed (by kernel_rfl) (by kernel_rfl) (by kernel_rfl) ?_
  refine Zw rfl (q_field gfa61_2 rfl) ?_
  refine Zw rfl (q_fe gone52 rfl rfl) ?_
  refine Zw rfl (q_field gfa61_5 rfl) ?_
  refine Zw rfl (q_fe gone59 rfl rfl) ?_
  refine VD.one rfl ?_
  refine VL.shut q20_8_2.refs 216 (fun _ _ _ _ => trivial) ?_
  obtain ⟨y23_9, ey23_9, hS⟩ := bd_s hS
  refine VL.callF (slices_Clip_names_Ref_names_Ref_ct q20_8_2.refs ey23_9) rfl (by decide) ?_
  rintro q23_9_0 rfl
  try dsimp only
  refine VL.back (D' := [(4, q20_8_2.stash.val), (3, ptr b3_7051 16)]) (by kernel_rfl) (Pend.cons rfl (q_fe gone59 rfl rfl) (Pend.cons rfl (q_field gfa61_5 rfl) (Pend.nil))) ?_
  refine Zw rfl (q_field gfa61_2 rfl) ?_
  refine VD.one rfl ?_
  refine VL.shut q20_8_2.stash 155 (fun h m => InM.out (X := MAl q20_8_2.stash.l) h m) ?_
  obtain ⟨y26_10, ey26_10, hS⟩ := bd_s hS
  refine VL.callF (slices_Clip_shelf_Stack_shelf_Shelf_ct q20_8_2.stash ey26_10) rfl (by decide) ?_
  rintro q26_10_0 rfl
  try dsimp only
  refine VL.back (D' := [(6, ptr b3_7051 2)]) (by kernel_rfl) (Pend.cons rfl (q_field gfa61_2 rfl) (Pend.nil)) ?_
  refine VD.one rfl ?_
  refine Zv (vc := [q23_9_0.val]) (cs' := [q20_8_2.work.val, q20_8_2.index.val, q23_9_0.val, str q20_8_2.head_branch, i64 q20_8_2.head_commit, str q20_8_2.seq_kind, i64 q20_8_2.seq_other, str q20_8_2.seq_text, q20_8_2.seq_doing.val, q20_8_2.seq_todo.val, i64 q20_8_2.seq_made, str q20_8_2.seq_branch, str q20_8_2.seq_head_branch, i64 q20_8_2.seq_head_commit, q20_8_2.seq_index.val, q20_8_2.seq_work.val, q20_8_2.stash.val]) rfl gsz52 ?_
  refine VL.back (D' := []) (by kernel_rfl) (Pend.nil) ?_
  refine Zw rfl (q_field gfa61_5 rfl) ?_
  refine VD.one rfl ?_
  refine Zv (vc := [q26_10_0.val]) (cs' := [q20_8_2.work.val, q20_8_2.index.val, q23_9_0.val, str q20_8_2.head_branch, i64 q20_8_2.head_commit, str q20_8_2.seq_kind, i64 q20_8_2.seq_other, str q20_8_2.seq_text, q20_8_2.seq_doing.val, q20_8_2.seq_todo.val, i64 q20_8_2.seq_made, str q20_8_2.seq_branch, str q20_8_2.seq_head_branch, i64 q20_8_2.seq_head_commit, q20_8_2.seq_index.val, q20_8_2.seq_work.val, q26_10_0.val]) rfl gsz59 ?_
  refine VL.back (D' := []) (by kernel_rfl) (Pend.nil) ?_
  refine VD.to (fun _ _ h => h) ?_
  refine Zq (Zr ?_)
  refine Zu (q_fes gagg61 rfl rfl) ?_
  refine Zv (vc := [q20_8_2.work.val, q20_8_2.index.val, q23_9_0.val, str q20_8_2.head_branch, i64 q20_8_2.head_commit, str q20_8_2.seq_kind, i64 q20_8_2.seq_other, str q20_8_2.seq_text, q20_8_2.seq_doing.val, q20_8_2.seq_todo.val, i64 q20_8_2.seq_made, str q20_8_2.seq_branch, str q20_8_2.seq_head_branch, i64 q20_8_2.seq_head_commit, q20_8_2.seq_index.val, q20_8_2.seq_work.val, q26_10_0.val]) (cs' := [q20_8_2.work.val, q20_8_2.index.val, q23_9_0.val, str q20_8_2.head_branch, i64 q20_8_2.head_commit, str q20_8_2.seq_kind, i64 q20_8_2.seq_other, str q20_8_2.seq_text, q20_8_2.seq_doing.val, q20_8_2.seq_todo.val, i64 q20_8_2.seq_made, str q20_8_2.seq_branch, str q20_8_2.seq_head_branch, i64 q20_8_2.seq_head_commit, q20_8_2.seq_index.val, q20_8_2.seq_work.val, q26_10_0.val]) rfl gsz61 ?_
  refine Zl ?_
  refine VC.keep (ρ' := [(2, ptr b2_2 0)]) [2] rfl ?_
  cases hS
  exact VC.ret (finG (vs := [.agg #[q20_8_2.work.val, q20_8_2.index.val, q23_9_0.val, str q20_8_2.head_branch, i64 q20_8_2.head_commit, str q20_8_2.seq_kind, i64 q20_8_2.seq_other, str q20_8_2.seq_text, q20_8_2.seq_doing.val, q20_8_2.seq_todo.val, i64 q20_8_2.seq_made, str q20_8_2.seq_branch, str q20_8_2.seq_head_branch, i64 q20_8_2.seq_head_commit, q20_8_2.seq_index.val, q20_8_2.seq_work.val, q26_10_0.val]]) (.inr rfl) rfl (RVs.cell gagg61 rfl rfl Rd.blk (RVs.nil)) (⟨q20_8_2.work, q20_8_2.index, q23_9_0, q20_8_2.head_branch, q20_8_2.head_commit, q20_8_2.seq_kind, q20_8_2.seq_other, q20_8_2.seq_text, q20_8_2.seq_doing, q20_8_2.seq_todo, q20_8_2.seq_made, q20_8_2.seq_branch, q20_8_2.seq_head_branch, q20_8_2.seq_head_commit, q20_8_2.seq_index, q20_8_2.seq_work, q26_10_0⟩, ⟨q20_8_0.b, q20_8_0.at_, q20_8_0.err⟩, ⟨q20_8_1.bad⟩) rfl rfl (by (try dsimp only); exact InM.out) (by (try dsimp only); exact EntO.out))
 refine VGo.of rfl ?_
 refine VL.alloc (cs := [.slice none 0 0, .slice none 0 0, .slice none 0 0, str [], i64 0, str [], i64 0, str [], .slice none 0 0, .slice none 0 0, i64 0, str [], str [], i64 0, .slice none 0 0, .slice none 0 0, .slice none 0 0]) (by kernel_rfl) (by decide) fun b3_7051 => ?_
 refine VL.backX (D' := [(2, ptr r_0_b 0), (0, ptr r_0_b 0)]) (listed' := #[true, false, true, false, false, true, false]) (Pend.cons rfl (q_fe gone159 rfl rfl) (Pend.cons rfl (q_fe gone159 rfl rfl) (Pend.nil))) (by kernel_rfl) (by kernel_rfl) ?_
 refine VG.ord [(1, false), (3, false), (4, true), (6, false)] (by kernel_rfl) (closed_of (by kernel_rfl)) (by kernel_rfl) ?_
 refine VD.one rfl ?_
 refine VL.callO (state_reader_row_ct r_0_b r_0 r_0_dec_b r_0_dec ey5_3) rfl (by decide) ?_
 rintro ⟨q5_7011_0, q5_7011_1, q5_7011_2⟩ rfl
 try dsimp only
 refine VL.back (D' := [(2, ptr r_0_b 0)]) (by kernel_rfl) (Pend.cons rfl (q_fe gone159 rfl rfl) (Pend.nil)) ?_
 refine VD.one rfl ?_
 refine VL.callO (state_reader_entries_ct r_0_b q5_7011_2 r_0_dec_b q5_7011_1 ey7_4) rfl (by decide) ?_
 rintro ⟨q7_7031_0, q7_7031_1, q7_7031_2⟩ rfl
 try dsimp only
 refine VL.back (D' := []) (by kernel_rfl) (Pend.nil) ?_
 refine Zw rfl (q_build (vs := [(0, q5_7011_0.val), (1, q7_7031_0.val)]) (cs := #[q5_7011_0.val, q7_7031_0.val, .slice none 0 0, str [], i64 0, str [], i64 0, str [], .slice none 0 0, .slice none 0 0, i64 0, str [], str [], i64 0, .slice none 0 0, .slice none 0 0, .slice none 0 0]) rfl (by kernel_rfl)) ?_
 refine VD.one rfl ?_
 refine Zv (vc := [q5_7011_0.val, q7_7031_0.val, .slice none 0 0, str [], i64 0, str [], i64 0, str [], .slice none 0 0, .slice none 0 0, i64 0, str [], str [], i64 0, .slice none 0 0, .slice none 0 0, .slice none 0 0]) (cs' := [q5_7011_0.val, q7_7031_0.val, .slice none 0 0, str [], i64 0, str [], i64 0, str [], .slice none 0 0, .slice none 0 0, i64 0, str [], str [], i64 0, .slice none 0 0, .slice none 0 0, .slice none 0 0]) rfl gsz61 ?_
 refine VL.back (D' := []) (by kernel_rfl) (Pend.nil) ?_
 refine VD.to (fun _ _ h => h) ?_
 refine Zq (Zr ?_)
 refine Zu (q_fe gone159 rfl rfl) ?_
 refine Zu (q_mkfn rfl) ?_
 refine VL.nilO (⟨none, 0, []⟩ : Sv NamesRef) 216 ⟨rfl, rfl⟩ ?_
 refine VL.nilO (⟨none, 0, []⟩ : Sv ShelfShelf) 155 ⟨rfl, rfl⟩ ?_
 refine VL.maNil (s := (⟨none, 0, []⟩ : Sv ShelfShelf)) rfl ?_
 refine VL.reB b3_7051 (cs' := [q5_7011_0.val, q7_7031_0.val, (⟨none, 0, []⟩ : Sv NamesRef).val, str [], i64 0, str [], i64 0, str [], (⟨none, 0, []⟩ : Sv TodoStep).val, (⟨none, 0, []⟩ : Sv TodoStep).val, i64 0, str [], str [], i64 0, (⟨none, 0, []⟩ : Sv IndexEntry).val, (⟨none, 0, []⟩ : Sv FilesFile).val, (⟨none, 0, []⟩ : Sv ShelfShelf).val]) rfl ?_
 obtain ⟨y11_5, ey11_5, hS⟩ := bd_s hS
 refine VL.callO (state_reader_many_v3_ct r_0_b q7_7031_2 r_0_dec_b q7_7031_1 b3_7051 (⟨q5_7011_0, q7_7031_0, (⟨none, 0, []⟩ : Sv NamesRef), [], 0, [], 0, [], (⟨none, 0, []⟩ : Sv TodoStep), (⟨none, 0, []⟩ : Sv TodoStep), 0, [], [], 0, (⟨none, 0, []⟩ : Sv IndexEntry), (⟨none, 0, []⟩ : Sv FilesFile), (⟨none, 0, []⟩ : Sv ShelfShelf)⟩ : StateNow) b1_1 ey11_5) rfl (by decide) ?_
 rintro ⟨q11_5_0, q11_5_1, q11_5_2⟩ rfl
 try dsimp only
 refine Zl ?_
 refine VC.keep (ρ' := [(1, ptr b1_1 0), (2, ptr b2_2 0), (3, ptr b3_7051 0)]) [1, 2, 3] rfl ?_
 refine Zq ?_
 refine VC.draw [(0, true), (2, true), (1, false), (4, true), (3, false), (5, false), (6, true), (7, false)] mixed (by kernel_rfl) (by kernel_rfl) (by kernel_rfl) ?_
 refine Zw rfl (q_fe gone159 rfl rfl) ?_
 refine Zw rfl (q_fe gone159 rfl rfl) ?_
 refine VD.one rfl ?_
 obtain ⟨y13_6, ey13_6, hS⟩ := bd_s hS
 refine VL.callO (state_reader_head_ct r_0_b q11_5_1 r_0_dec_b q11_5_0 ey13_6) rfl (by decide) ?_
 rintro ⟨q13_6_0, q13_6_1⟩ rfl
 try dsimp only
 refine VL.back (D' := [(2, ptr r_0_b 0)]) (by kernel_rfl) (Pend.cons rfl (q_fe gone159 rfl rfl) (Pend.nil)) ?_
 refine Zw rfl (q_field gfa61_3 rfl) ?_
 refine VD.one rfl ?_
 obtain ⟨y15_7, ey15_7, hS⟩ := bd_s hS
 refine VL.callO (state_reader_seq_ct r_0_b q11_5_1 r_0_dec_b q13_6_1 ey15_7) rfl (by decide) ?_
 rintro ⟨q15_7_0, q15_7_1, q15_7_2⟩ rfl
 try dsimp only
 refine VL.back (D' := [(4, ptr b3_7051 3)]) (by kernel_rfl) (Pend.cons rfl (q_field gfa61_3 rfl) (Pend.nil)) ?_
 refine VD.one rfl ?_
 refine Zv (vc := [str q13_6_0.branch, i64 q13_6_0.commit]) (cs' := [q11_5_2.work.val, q11_5_2.index.val, q11_5_2.refs.val, str q13_6_0.branch, i64 q13_6_0.commit, str q11_5_2.seq_kind, i64 q11_5_2.seq_other, str q11_5_2.seq_text, q11_5_2.seq_doing.val, q11_5_2.seq_todo.val, i64 q11_5_2.seq_made, str q11_5_2.seq_branch, str q11_5_2.seq_head_branch, i64 q11_5_2.seq_head_commit, q11_5_2.seq_index.val, q11_5_2.seq_work.val, q11_5_2.stash.val]) rfl gsz54 ?_
 refine VL.back (D' := []) (by kernel_rfl) (Pend.nil) ?_
 refine Zw rfl (q_field gfa61_4 rfl) ?_
 refine VD.one rfl ?_
 refine Zv (vc := (zStateSeq q15_7_0)) (cs' := [q11_5_2.work.val, q11_5_2.index.val, q11_5_2.refs.val, str q13_6_0.branch, i64 q13_6_0.commit, str q15_7_0.kind, i64 q15_7_0.other, str q15_7_0.text, q15_7_0.doing.val, q15_7_0.todo.val, i64 q15_7_0.made, str q15_7_0.branch, str q15_7_0.head_branch, i64 q15_7_0.head_commit, q15_7_0.index.val, q15_7_0.work.val, q11_5_2.stash.val]) rfl gsz57 ?_
 refine VL.back (D' := []) (by kernel_rfl) (Pend.nil) ?_
 refine VD.to (fun _ _ h => h) ?_
 refine Zq (Zr ?_)
 refine Zu (q_fe gone159 rfl rfl) ?_
 refine Zu (q_mkfn rfl) ?_
 obtain ⟨y20_8, ey20_8, hS⟩ := bd_s hS
 refine VL.callO (state_reader_many_v5_ct r_0_b q15_7_2 r_0_dec_b q15_7_1 b3_7051 (⟨q11_5_2.work, q11_5_2.index, q11_5_2.refs, q13_6_0.branch, q13_6_0.commit, q15_7_0.kind, q15_7_0.other, q15_7_0.text, q15_7_0.doing, q15_7_0.todo, q15_7_0.made, q15_7_0.branch, q15_7_0.head_branch, q15_7_0.head_commit, q15_7_0.index, q15_7_0.work, q11_5_2.stash⟩ : StateNow) b1_1 ey20_8) rfl (by decide) ?_
 rintro ⟨q20_8_0, q20_8_1, q20_8_2⟩ rfl
 try dsimp only
 refine Zl ?_
 refine VC.keep (ρ' := [(2, ptr b2_2 0), (3, ptr b3_7051 0)]) [2, 3] rfl ?_
 refine Zq ?_
 refine VC.draw [(0, true), (1, true), (3, true), (4, true), (2, false), (6, true), (5, false), (7, false), (8, true), (9, false)] mixed (by kernel_rfl) (by kernel_rfl) (by kernel_rfl) ?_
 refine Zw rfl (q_field gfa61_2 rfl) ?_
 refine Zw rfl (q_fe gone52 rfl rfl) ?_
 refine Zw rfl (q_field gfa61_5 rfl) ?_
 refine Zw rfl (q_fe gone59 rfl rfl) ?_
 refine VD.one rfl ?_
 refine VL.shut q20_8_2.refs 216 (fun _ _ _ _ => trivial) ?_
 obtain ⟨y23_9, ey23_9, hS⟩ := bd_s hS
 refine VL.callF (slices_Clip_names_Ref_names_Ref_ct q20_8_2.refs ey23_9) rfl (by decide) ?_
 rintro q23_9_0 rfl
 try dsimp only
 refine VL.back (D' := [(4, q20_8_2.stash.val), (3, ptr b3_7051 16)]) (by kernel_rfl) (Pend.cons rfl (q_fe gone59 rfl rfl) (Pend.cons rfl (q_field gfa61_5 rfl) (Pend.nil))) ?_
 refine Zw rfl (q_field gfa61_2 rfl) ?_
 refine VD.one rfl ?_
 refine VL.shut q20_8_2.stash 155 (fun h m => InM.out (X := MAl q20_8_2.stash.l) h m) ?_
 obtain ⟨y26_10, ey26_10, hS⟩ := bd_s hS
 refine VL.callF (slices_Clip_shelf_Stack_shelf_Shelf_ct q20_8_2.stash ey26_10) rfl (by decide) ?_
 rintro q26_10_0 rfl
 try dsimp only
 refine VL.back (D' := [(6, ptr b3_7051 2)]) (by kernel_rfl) (Pend.cons rfl (q_field gfa61_2 rfl) (Pend.nil)) ?_
 refine VD.one rfl ?_
 refine Zv (vc := [q23_9_0.val]) (cs' := [q20_8_2.work.val, q20_8_2.index.val, q23_9_0.val, str q20_8_2.head_branch, i64 q20_8_2.head_commit, str q20_8_2.seq_kind, i64 q20_8_2.seq_other, str q20_8_2.seq_text, q20_8_2.seq_doing.val, q20_8_2.seq_todo.val, i64 q20_8_2.seq_made, str q20_8_2.seq_branch, str q20_8_2.seq_head_branch, i64 q20_8_2.seq_head_commit, q20_8_2.seq_index.val, q20_8_2.seq_work.val, q20_8_2.stash.val]) rfl gsz52 ?_
 refine VL.back (D' := []) (by kernel_rfl) (Pend.nil) ?_
 refine Zw rfl (q_field gfa61_5 rfl) ?_
 refine VD.one rfl ?_
 refine Zv (vc := [q26_10_0.val]) (cs' := [q20_8_2.work.val, q20_8_2.index.val, q23_9_0.val, str q20_8_2.head_branch, i64 q20_8_2.head_commit, str q20_8_2.seq_kind, i64 q20_8_2.seq_other, str q20_8_2.seq_text, q20_8_2.seq_doing.val, q20_8_2.seq_todo.val, i64 q20_8_2.seq_made, str q20_8_2.seq_branch, str q20_8_2.seq_head_branch, i64 q20_8_2.seq_head_commit, q20_8_2.seq_index.val, q20_8_2.seq_work.val, q26_10_0.val]) rfl gsz59 ?_
 refine VL.back (D' := []) (by kernel_rfl) (Pend.nil) ?_
 refine VD.to (fun _ _ h => h) ?_
 refine Zq (Zr ?_)
 refine Zu (q_fes gagg61 rfl rfl) ?_
 refine Zv (vc := [q20_8_2.work.val, q20_8_2.index.val, q23_9_0.val, str q20_8_2.head_branch, i64 q20_8_2.head_commit, str q20_8_2.seq_kind, i64 q20_8_2.seq_other, str q20_8_2.seq_text, q20_8_2.seq_doing.val, q20_8_2.seq_todo.val, i64 q20_8_2.seq_made, str q20_8_2.seq_branch, str q20_8_2.seq_head_branch, i64 q20_8_2.seq_head_commit, q20_8_2.seq_index.val, q20_8_2.seq_work.val, q26_10_0.val]) (cs' := [q20_8_2.work.val, q20_8_2.index.val, q23_9_0.val, str q20_8_2.head_branch, i64 q20_8_2.head_commit, str q20_8_2.seq_kind, i64 q20_8_2.seq_other, str q20_8_2.seq_text, q20_8_2.seq_doing.val, q20_8_2.seq_todo.val, i64 q20_8_2.seq_made, str q20_8_2.seq_branch, str q20_8_2.seq_head_branch, i64 q20_8_2.seq_head_commit, q20_8_2.seq_index.val, q20_8_2.seq_work.val, q26_10_0.val]) rfl gsz61 ?_
 refine Zl ?_
 refine VC.keep (ρ' := [(2, ptr b2_2 0)]) [2] rfl ?_
 cases hS
 exact VC.ret (finG (vs := [.agg #[q20_8_2.work.val, q20_8_2.index.val, q23_9_0.val, str q20_8_2.head_branch, i64 q20_8_2.head_commit, str q20_8_2.seq_kind, i64 q20_8_2.seq_other, str q20_8_2.seq_text, q20_8_2.seq_doing.val, q20_8_2.seq_todo.val, i64 q20_8_2.seq_made, str q20_8_2.seq_branch, str q20_8_2.seq_head_branch, i64 q20_8_2.seq_head_commit, q20_8_2.seq_index.val, q20_8_2.seq_work.val, q26_10_0.val]]) (.inr rfl) rfl (RVs.cell gagg61 rfl rfl Rd.blk (RVs.nil)) (⟨q20_8_2.work, q20_8_2.index, q23_9_0, q20_8_2.head_branch, q20_8_2.head_commit, q20_8_2.seq_kind, q20_8_2.seq_other, q20_8_2.seq_text, q20_8_2.seq_doing, q20_8_2.seq_todo, q20_8_2.seq_made, q20_8_2.seq_branch, q20_8_2.seq_head_branch, q20_8_2.seq_head_commit, q20_8_2.seq_index, q20_8_2.seq_work, q26_10_0⟩, ⟨q20_8_0.b, q20_8_0.at_, q20_8_0.err⟩, ⟨q20_8_1.bad⟩) rfl rfl (by (try dsimp only); exact InM.out) (by (try dsimp only); exact EntO.out))
theorem codec_Dec_Left_ct (d_0_b : Nat) (d_0 : CodecDec) {r : Int} (hS : Sh.codec_Dec_Left d_0.pl = some r) :
 Ct Tryz.prog 54 [ptr d_0_b 0] (d_0.b.ok.and (d_0.err.ok.and (Cells d_0_b 0 [d_0.b.val, i64 d_0.at_, d_0.err.val]))) (Ow.emp) (X := Unit) (fun _ => i64 r) (fun _ => True) (fun _ => Mo.tt) (fun _ => Ow.emp) := by
 refine Zo Tryz.func54 Tryz.ntmps54 fun c => ?_
 unfold Sh.codec_Dec_Left at hS
 refine Zq (Zr ?_)
 refine Zy ?_
 refine Zq (Zq (Zr ?_))
 refine Zm ?_
 refine Zu (q_nilCheck rfl) ?_
 refine Zu (q_field gfa233_2 rfl) ?_
 refine Zu (q_fm gone26 rfl rfl) ?_
 refine Zu (q_erne Tryz.underlying26 rfl) ?_
 refine Zl ?_
 refine Zcn hS (fun h7 hS => ?_) (fun h7 hS => ?_)
 ·
  refine Zq (Zr ?_)
  refine Zy ?_
  cases hS
  exact Ze
 refine Zk ?_
 refine Zq ?_
 refine VC.draw ((List.range 11).map fun k => (k, true)) mixed (by kernel_rfl) (by kernel_rfl) (by kernel_rfl) ?_
 refine Zw rfl (q_move rfl) ?_
 refine Zw rfl (q_nilCheck rfl) ?_
 refine Zw rfl (q_field gfa233_0 rfl) ?_
 refine Zw rfl (q_fm gone22 rfl rfl) ?_
 refine Zw rfl (q_ln (s := d_0.b) Tryz.underlying22 rfl) ?_
 refine Zw rfl (q_move rfl) ?_
 refine Zw rfl (q_nilCheck rfl) ?_
 refine Zw rfl (q_field gfa233_1 rfl) ?_
 refine Zw rfl (q_fm gone3 rfl rfl) ?_
 obtain ⟨b17, hS⟩ := gd_s hS
 refine Zw rfl (q_sub rfl rfl b17) ?_
 refine Zw rfl (q_assign rfl) ?_
 refine VD.to (fun _ _ h => h) ?_
 refine VC.keep (ρ' := [(2, i64 ((d_0.b.l.length : Int) - d_0.at_))]) [2] rfl ?_
 cases hS
 exact Ze
theorem state_reader_end_ct (r_0_b : Nat) (r_0 : StateReader) (r_0_dec_b : Nat) (r_0_dec : CodecDec) {r : Err} (hS : Sh.state_reader_end r_0 r_0_dec.pl = some r) :
 Ct Tryz.prog 68 [ptr r_0_b 0] (r_0_dec.b.ok.and r_0_dec.err.ok) (Ow.star (Blk r_0_dec_b [r_0_dec.b.val, i64 r_0_dec.at_, r_0_dec.err.val] 233) (Blk r_0_b [ptr r_0_dec_b 0, .bool r_0.bad] 161)) (X := Er) (fun x => x.val) (fun x => r = x.pl) (fun x => x.ok) (fun x => Ow.star (Blk r_0_dec_b [r_0_dec.b.val, i64 r_0_dec.at_, r_0_dec.err.val] 233) (Blk r_0_b [ptr r_0_dec_b 0, .bool r_0.bad] 161)) := by
 refine Zo Tryz.func68 Tryz.ntmps68 fun c => ?_
 unfold Sh.state_reader_end at hS
 refine Zq (Zr ?_)
 refine Zy ?_
 refine Zq (Zb (Zq (Zr ?_)))
 refine Zm ?_
 refine Zu (q_nilCheck rfl) ?_
 refine Zu (q_field gfa161_0 rfl) ?_
 refine Zu (q_fe gone129 rfl rfl) ?_
 obtain ⟨y8_1, ey8_1, hS⟩ := bd_s hS
 refine VL.callO (codec_Dec_Err_ct r_0_dec_b r_0_dec ey8_1) rfl (by decide) ?_
 rintro q8_1_0 rfl
 try dsimp only
 refine Zu (q_erne Tryz.underlying26 rfl) ?_
 refine Zy ?_
 refine Zcn hS (fun h3 hS => ?_) (fun h3 hS => ?_)
 ·
  refine Zq (Zr ?_)
  refine Zm ?_
  refine Zu (q_nilCheck rfl) ?_
  refine Zu (q_field gfa161_0 rfl) ?_
  refine Zu (q_fe gone129 rfl rfl) ?_
  obtain ⟨y14_2, ey14_2, hS⟩ := bd_s hS
  refine VL.callO (codec_Dec_Err_ct r_0_dec_b r_0_dec ey14_2) rfl (by decide) ?_
  rintro q14_2_0 rfl
  try dsimp only
  refine Zy ?_
  refine VC.keep (ρ' := [(2, q14_2_0.val)]) [2] rfl ?_
  cases hS
  exact VC.ret (fin1 (.inr rfl) rfl rfl q14_2_0 rfl rfl (by (try dsimp only); exact InM.out) (by (try dsimp only); exact EntO.out))
 refine VC.cutJ (S := Bool) (fun (x15_3 : Bool) => x15_3) (fun (x15_3 : Bool) => [(15, .bool x15_3)]) (fun (x15_3 : Bool) => Mo.tt) (fun (x15_3 : Bool) => Ow.star (Blk r_0_dec_b [r_0_dec.b.val, i64 r_0_dec.at_, r_0_dec.err.val] 233) (Ow.star (Blk r_0_b [ptr r_0_dec_b 0, .bool r_0.bad] 161) (Ow.emp))) hS ?_ ?_
 ·
  clear hS
  intro k4 hS
  refine Zr ?_
  refine Zm ?_
  refine Zu (q_nilCheck rfl) ?_
  refine Zu (q_field gfa161_1 rfl) ?_
  refine Zu (q_fe gone4 rfl rfl) ?_
  refine Zm ?_
  refine Zspb 20 hS (fun h20 hS => ?_) (fun h20 hS => ?_)
  ·
   refine VL.runs 8 [(15, some true)] (by kernel_rfl) ?_
   refine VL.mt true [15] (fun _ _ h => h) hS rfl
  refine Zg ?_
  refine Zh (q_nilCheck rfl) ?_
  refine Zh (q_field gfa161_0 rfl) ?_
  refine Zh (q_fe gone129 rfl rfl) ?_
  obtain ⟨y25_5, ey25_5, hS⟩ := bd_s hS
  refine Zh (q_callR (codec_Dec_Left_ct r_0_dec_b r_0_dec ey25_5) rfl (fun _ _ => rfl)) ?_
  refine Zh (q_gtr rfl rfl) ?_
  refine Zy ?_
  refine VL.mt (decide (0 < y25_5)) [15] (fun _ _ h => h) hS rfl
 clear hS
 rintro x15_3 hS
 refine Zcb hS (fun h15 hS => ?_) (fun h15 hS => ?_)
 ·
  refine Zq (Zr ?_)
  refine Zu (q_mkif Tryz.underlying131 (fun _ h => by cases h) rfl) ?_
  refine Zy ?_
  cases hS
  exact VC.ret (fin1 (.inr rfl) rfl rfl (Er.no 2) rfl rfl (by (try dsimp only); exact InM.out) (by (try dsimp only); exact EntO.out))
 refine Zk ?_
 refine Zq (Zr ?_)
 refine Zy ?_
 cases hS
 exact VC.ret (fin1 (.inr rfl) rfl rfl .nil rfl rfl (by (try dsimp only); exact InM.out) (by (try dsimp only); exact EntO.out))
theorem state_Unmark_ct (s_0 : Str) {r : StateNowP × Err} (hS : Sh.state_Unmark s_0 = some r) :
 Ct Tryz.prog 23 [str s_0] Mo.tt (Ow.emp) (X := StateNow × Er) (fun x => .tuple #[.agg (Dat.enc x.1).toArray, x.2.val]) (fun x => r = (x.1.pl, x.2.pl)) (fun x => (x.1.m.and x.2.ok)) (fun x => Ow.emp) := by
 refine Zo Tryz.func23 Tryz.ntmps23 fun c => ?_
 unfold Sh.state_Unmark at hS
 refine Zq (Zr ?_)
 refine VL.alloc (cs := [.slice none 0 0, .slice none 0 0, .slice none 0 0, str [], i64 0, str [], i64 0, str [], .slice none 0 0, .slice none 0 0, i64 0, str [], str [], i64 0, .slice none 0 0, .slice none 0 0, .slice none 0 0]) (by kernel_rfl) (by decide) fun b2_1 => ?_
 refine Zy ?_
 refine Zq (Zr ?_)
 refine Zm ?_
 obtain ⟨b8, hS⟩ := gd_s hS
 refine VL.s2b Tryz.underlying9 Tryz.underlying22 Tryz.underlying5 rfl b8 (by decide) fun s8_2 hs8_2 => ?_
 replace hS := lt_to hs8_2 hS
 obtain ⟨y9_4, ey9_4, hS⟩ := bd_s hS
 refine VL.callO (codec_Of_ct s8_2 ey9_4) rfl (by decide) ?_
 rintro ⟨q9_4_0, q9_4_1⟩ rfl
 try dsimp only
 refine Zu (q_build (vs := [(0, ptr q9_4_0 0)]) (cs := #[ptr q9_4_0 0, .bool false]) rfl (by kernel_rfl)) ?_
 refine VL.box (cs := [ptr q9_4_0 0, .bool false]) rfl rfl (by decide) fun b11_5 => ?_
 refine Zy ?_
 refine Zq (Zr ?_)
 refine Zm ?_
 obtain ⟨y13_6, ey13_6, hS⟩ := bd_s hS
 refine VL.callO (state_reader_now_ct b11_5 (⟨false⟩ : StateReader) q9_4_0 q9_4_1 ey13_6) rfl (by decide) ?_
 rintro ⟨q13_6_0, q13_6_1, q13_6_2⟩ rfl
 try dsimp only
 refine VL.alloc (cs := [.slice none 0 0, .slice none 0 0, .slice none 0 0, str [], i64 0, str [], i64 0, str [], .slice none 0 0, .slice none 0 0, i64 0, str [], str [], i64 0, .slice none 0 0, .slice none 0 0, .slice none 0 0]) (by kernel_rfl) (by decide) fun b5_7 => ?_
 refine Zv (vc := [q13_6_0.work.val, q13_6_0.index.val, q13_6_0.refs.val, str q13_6_0.head_branch, i64 q13_6_0.head_commit, str q13_6_0.seq_kind, i64 q13_6_0.seq_other, str q13_6_0.seq_text, q13_6_0.seq_doing.val, q13_6_0.seq_todo.val, i64 q13_6_0.seq_made, str q13_6_0.seq_branch, str q13_6_0.seq_head_branch, i64 q13_6_0.seq_head_commit, q13_6_0.seq_index.val, q13_6_0.seq_work.val, q13_6_0.stash.val]) (cs' := [q13_6_0.work.val, q13_6_0.index.val, q13_6_0.refs.val, str q13_6_0.head_branch, i64 q13_6_0.head_commit, str q13_6_0.seq_kind, i64 q13_6_0.seq_other, str q13_6_0.seq_text, q13_6_0.seq_doing.val, q13_6_0.seq_todo.val, i64 q13_6_0.seq_made, str q13_6_0.seq_branch, str q13_6_0.seq_head_branch, i64 q13_6_0.seq_head_commit, q13_6_0.seq_index.val, q13_6_0.seq_work.val, q13_6_0.stash.val]) rfl gsz61 ?_
 refine Zl ?_
 refine VC.keep (ρ' := [(2, ptr b2_1 0), (4, ptr b11_5 0), (5, ptr b5_7 0)]) [2, 4, 5] rfl ?_
 refine Zq (Zq (Zr ?_))
 refine Zm ?_
 obtain ⟨y15_8, ey15_8, hS⟩ := bd_s hS
 refine VL.callO (state_reader_end_ct b11_5 q13_6_2 q9_4_0 q13_6_1 ey15_8) rfl (by decide) ?_
 rintro q15_8_0 rfl
 try dsimp only
 refine Zy ?_
 refine Zq (Zr ?_)
 refine Zm ?_
 refine Zu (q_erne Tryz.underlying26 rfl) ?_
 refine Zl ?_
 refine Zcn hS (fun h17 hS => ?_) (fun h17 hS => ?_)
 ·
  refine Zq (Zr ?_)
  refine Zu (q_build (vs := []) (cs := #[.slice none 0 0, .slice none 0 0, .slice none 0 0, str [], i64 0, str [], i64 0, str [], .slice none 0 0, .slice none 0 0, i64 0, str [], str [], i64 0, .slice none 0 0, .slice none 0 0, .slice none 0 0]) rfl (by kernel_rfl)) ?_
  refine Zm ?_
  refine Zv (vc := [.slice none 0 0, .slice none 0 0, .slice none 0 0, str [], i64 0, str [], i64 0, str [], .slice none 0 0, .slice none 0 0, i64 0, str [], str [], i64 0, .slice none 0 0, .slice none 0 0, .slice none 0 0]) (cs' := [.slice none 0 0, .slice none 0 0, .slice none 0 0, str [], i64 0, str [], i64 0, str [], .slice none 0 0, .slice none 0 0, i64 0, str [], str [], i64 0, .slice none 0 0, .slice none 0 0, .slice none 0 0]) rfl gsz61 ?_
  refine Zy ?_
  refine VC.keep (ρ' := [(2, ptr b2_1 0), (3, q15_8_0.val)]) [2, 3] rfl ?_
  cases hS
  exact VC.ret (finG (vs := [.agg #[.slice none 0 0, .slice none 0 0, .slice none 0 0, str [], i64 0, str [], i64 0, str [], .slice none 0 0, .slice none 0 0, i64 0, str [], str [], i64 0, .slice none 0 0, .slice none 0 0, .slice none 0 0], q15_8_0.val]) (.inr rfl) rfl (RVs.cell gagg61 rfl rfl Rd.blk (RVs.tmp rfl (RVs.nil))) (⟨⟨none, 0, []⟩, ⟨none, 0, []⟩, ⟨none, 0, []⟩, [], 0, [], 0, [], ⟨none, 0, []⟩, ⟨none, 0, []⟩, 0, [], [], 0, ⟨none, 0, []⟩, ⟨none, 0, []⟩, ⟨none, 0, []⟩⟩, q15_8_0) rfl rfl (by (try dsimp only); exact InM.out) (fun _ _ => trivial))
 refine Zk ?_
 refine Zq (Zr ?_)
 refine Zu (q_fes gagg61 rfl rfl) ?_
 refine Zv (vc := [q13_6_0.work.val, q13_6_0.index.val, q13_6_0.refs.val, str q13_6_0.head_branch, i64 q13_6_0.head_commit, str q13_6_0.seq_kind, i64 q13_6_0.seq_other, str q13_6_0.seq_text, q13_6_0.seq_doing.val, q13_6_0.seq_todo.val, i64 q13_6_0.seq_made, str q13_6_0.seq_branch, str q13_6_0.seq_head_branch, i64 q13_6_0.seq_head_commit, q13_6_0.seq_index.val, q13_6_0.seq_work.val, q13_6_0.stash.val]) (cs' := [q13_6_0.work.val, q13_6_0.index.val, q13_6_0.refs.val, str q13_6_0.head_branch, i64 q13_6_0.head_commit, str q13_6_0.seq_kind, i64 q13_6_0.seq_other, str q13_6_0.seq_text, q13_6_0.seq_doing.val, q13_6_0.seq_todo.val, i64 q13_6_0.seq_made, str q13_6_0.seq_branch, str q13_6_0.seq_head_branch, i64 q13_6_0.seq_head_commit, q13_6_0.seq_index.val, q13_6_0.seq_work.val, q13_6_0.stash.val]) rfl gsz61 ?_
 refine Zy ?_
 cases hS
 exact VC.ret (finG (vs := [.agg #[q13_6_0.work.val, q13_6_0.index.val, q13_6_0.refs.val, str q13_6_0.head_branch, i64 q13_6_0.head_commit, str q13_6_0.seq_kind, i64 q13_6_0.seq_other, str q13_6_0.seq_text, q13_6_0.seq_doing.val, q13_6_0.seq_todo.val, i64 q13_6_0.seq_made, str q13_6_0.seq_branch, str q13_6_0.seq_head_branch, i64 q13_6_0.seq_head_commit, q13_6_0.seq_index.val, q13_6_0.seq_work.val, q13_6_0.stash.val], .nilIface]) (.inr rfl) rfl (RVs.cell gagg61 rfl rfl Rd.blk (RVs.tmp rfl (RVs.nil))) (q13_6_0, .nil) rfl rfl (by (try dsimp only); exact InM.out) (fun _ _ => trivial))
theorem state_writer_texts_ct (w_0_b : Nat) (w_0 : StateWriter) (l_1 : Sv Str) {r : StateWriterP} (hS : Sh.state_writer_texts w_0.pl l_1.l = some r) :
 Ct Tryz.prog 165 [ptr w_0_b 0, l_1.val] l_1.ok (Ow.star (Sv.own w_0.enc_b 5) (Blk w_0_b [w_0.enc_b.val] 157)) (X := StateWriter) (fun x => .tuple #[]) (fun x => r = x.pl) (fun x => Mo.tt) (fun x => Ow.star (Blk w_0_b [x.enc_b.val] 157) (Sv.own x.enc_b 5)) := by
 refine Zo Tryz.func165 Tryz.ntmps165 fun c => ?_
 unfold Sh.state_writer_texts at hS
 refine Zq (Zr ?_)
 refine Zm ?_
 refine Zu (q_nilCheck rfl) ?_
 refine Zu (q_field gfa157_0 rfl) ?_
 refine Zm ?_
 refine Zu (q_ln (s := l_1) Tryz.underlying89 rfl) ?_
 refine VL.lit (α := Int) (xs := [.tmp 8]) (vs := [i64 (l_1.l.length : Int)]) [(l_1.l.length : Int)] Tryz.underlying32 glit3 (by decide) rfl rfl rfl rfl (by decide) (fun _ _ _ _ => trivial) (by decide) (fun s9_1 hs9_1 => ?_) (by decide)
 replace hS := lt_to hs9_1 hS
 obtain ⟨y10_3, ey10_3, hS⟩ := bd_s hS
 refine VL.callO (codec_Enc_Int_ct w_0_b w_0 s9_1 ey10_3) rfl (by decide) ?_
 rintro q10_3_0 rfl
 try dsimp only
 refine Zl ?_
 refine Zr ?_
 refine Zm ?_
 refine Zu (q_nilCheck rfl) ?_
 refine Zu (q_field gfa157_0 rfl) ?_
 refine Zm ?_
 obtain ⟨y15_4, ey15_4, hS⟩ := bd_s hS
 refine VL.callO (codec_Enc_Text_ct w_0_b q10_3_0 l_1 ey15_4) rfl (by decide) ?_
 rintro q15_4_0 rfl
 try dsimp only
 cases hS
 exact VL.nil (fin0 (.inl rfl) rfl ⟨q15_4_0.enc_b⟩ rfl rfl (by (try dsimp only); exact InM.out) (by (try dsimp only); exact EntO.out))
theorem state_writer_state_ct (w_0_b : Nat) (w_0 : StateWriter) (s_1 : StateState) {r : StateWriterP} (hS : Sh.state_writer_state w_0.pl s_1.pl = some r) :
 Ct Tryz.prog 81 [ptr w_0_b 0, .agg (zStateState s_1).toArray] (s_1.now_work.ok.and (s_1.now_index.ok.and (s_1.now_refs.ok.and (s_1.now_seq_doing.ok.and (s_1.now_seq_todo.ok.and (s_1.now_seq_index.ok.and (s_1.now_seq_work.ok.and (s_1.now_stash.ok.and (s_1.commits.ok.and (s_1.log_back.ok.and s_1.log_forth.ok)))))))))) (Ow.star (Sv.own w_0.enc_b 5) (Blk w_0_b [w_0.enc_b.val] 157)) (X := StateWriter) (fun x => .tuple #[]) (fun x => r = x.pl) (fun x => Mo.tt) (fun x => Ow.star (Blk w_0_b [x.enc_b.val] 157) (Sv.own x.enc_b 5)) := by
 refine Zo Tryz.func81 Tryz.ntmps81 fun c => ?_
 unfold Sh.state_writer_state at hS
 refine Zq (Zr ?_)
 refine VL.box (cs := (zStateState s_1)) rfl rfl (by decide) fun b3_1 => ?_
 refine Zl ?_
 refine Zq (Zr ?_)
 refine Zm ?_
 refine Zu (q_field gfa93_0 rfl) ?_
 refine Zu (q_fep (j := 0) (n := 17) gagg61 rfl rfl rfl) ?_
 obtain ⟨y9_2, ey9_2, hS⟩ := bd_s hS
 refine VL.callO (state_writer_now_ct w_0_b w_0 (⟨s_1.now_work, s_1.now_index, s_1.now_refs, s_1.now_head_branch, s_1.now_head_commit, s_1.now_seq_kind, s_1.now_seq_other, s_1.now_seq_text, s_1.now_seq_doing, s_1.now_seq_todo, s_1.now_seq_made, s_1.now_seq_branch, s_1.now_seq_head_branch, s_1.now_seq_head_commit, s_1.now_seq_index, s_1.now_seq_work, s_1.now_stash⟩ : StateNow) ey9_2) rfl (by decide) ?_
 rintro q9_2_0 rfl
 try dsimp only
 refine Zl ?_
 refine Zq ?_
 refine VC.draw [(0, true), (1, true), (2, true), (3, true), (4, true), (5, true), (6, false), (7, false)] mixed (by kernel_rfl) (by kernel_rfl) (by kernel_rfl) ?_
 refine Zw rfl (q_move rfl) ?_
 refine Zw rfl (q_nilCheck rfl) ?_
 refine Zw rfl (q_field gfa157_0 rfl) ?_
 refine Zw rfl (q_field gfa93_1 rfl) ?_
 refine Zw rfl (q_fe gone68 rfl rfl) ?_
 refine Zw rfl (q_lnm StateCommit.pl (s := s_1.commits) Tryz.underlying68 rfl) ?_
 refine VD.one rfl ?_
 refine VL.lit (α := Int) (xs := [.tmp 15]) (vs := [i64 ((s_1.commits.l.map StateCommit.pl).length : Int)]) [((s_1.commits.l.map StateCommit.pl).length : Int)] Tryz.underlying32 glit3 (by decide) rfl rfl rfl rfl (by decide) (fun _ _ _ _ => trivial) (by decide) (fun s16_3 hs16_3 => ?_) (by decide)
 replace hS := lt_to hs16_3 hS
 refine VL.back (D' := [(2, ptr w_0_b 0), (1, ptr w_0_b 0)]) (by kernel_rfl) (Pend.cons rfl (q_field gfa157_0 rfl) (Pend.cons rfl (q_nilCheck rfl) (Pend.nil))) ?_
 refine VD.one rfl ?_
 obtain ⟨y17_5, ey17_5, hS⟩ := bd_s hS
 refine VL.callO (codec_Enc_Int_ct w_0_b q9_2_0 s16_3 ey17_5) rfl (by decide) ?_
 rintro q17_5_0 rfl
 try dsimp only
 refine VL.back (D' := []) (by kernel_rfl) (Pend.nil) ?_
 refine VD.to (fun _ _ h => h) ?_
 refine VC.keep (ρ' := [(0, ptr w_0_b 0), (3, ptr b3_1 0)]) [0, 3] rfl ?_
 refine Zq (Zq (Zr ?_))
 refine Zu (q_field gfa93_1 rfl) ?_
 refine Zu (q_fe gone68 rfl rfl) ?_
 refine Zu (q_lnm StateCommit.pl (s := s_1.commits) Tryz.underlying68 rfl) ?_
 refine Zy ?_
 refine Zb ?_
 refine VC.iter (S := Int × Sv UInt8) (fun sg => (sg.1, sg.2.l)) (fun sg => [(0, ptr w_0_b 0), (3, ptr b3_1 0), (19, s_1.commits.val), (20, i64 ((s_1.commits.l.map StateCommit.pl).length : Int)), (21, i64 sg.1)]) (fun sg => Mo.tt) (fun sg => Ow.star (Blk w_0_b [sg.2.val] 157) (Ow.star (Blk b3_1 (zStateState s_1) 93) (Ow.star (Sv.own sg.2 5) (Ow.emp)))) (0, q17_5_0.enc_b) [0, 3, 19, 20, 21] hS rfl ?_
 clear hS
 rintro ⟨x21_6, c0_7⟩ m1 y1 hS hK1
 refine Zq (Zr ?_)
 refine Zu (q_lss rfl rfl) ?_
 refine Zl ?_
 refine Zq ?_
 refine Zc hS (fun h22 hS => ?_) (fun h22 hS => ?_)
 ·
  refine Zk ?_
  refine Zq (Zb (Zq (Zr ?_)))
  obtain ⟨z23_8, nz23_8, hz23_8, hS⟩ := atm_s hS
  refine VL.deep z23_8.m hz23_8 (fun _ q => q) ?_
  refine Zu (q_ixm (s := s_1.commits) Tryz.underlying68 gsz110 rfl rfl nz23_8 (lt_of_get nz23_8 hz23_8)) ?_
  refine Zu (q_els (s := s_1.commits) gagg110 rfl rfl hz23_8) ?_
  refine VL.alloc (cs := [.slice none 0 0, .slice none 0 0, i64 0, str []]) (by kernel_rfl) (by decide) fun b5_9 => ?_
  refine Zv (vc := [z23_8.tree.val, z23_8.parents.val, i64 z23_8.time, str z23_8.text]) (cs' := [z23_8.tree.val, z23_8.parents.val, i64 z23_8.time, str z23_8.text]) rfl gsz110 ?_
  refine Zl ?_
  refine Zq (Zr ?_)
  refine Zm ?_
  refine Zu (q_field gfa110_0 rfl) ?_
  refine Zu (q_fe gone50 rfl rfl) ?_
  obtain ⟨y28_10, ey28_10, hS⟩ := bd_s hS
  refine VL.callO (state_writer_row_ct w_0_b (⟨c0_7⟩ : StateWriter) z23_8.tree ey28_10) rfl (by decide) ?_
  rintro q28_10_0 rfl
  try dsimp only
  refine Zl ?_
  refine VC.keep (ρ' := [(0, ptr w_0_b 0), (3, ptr b3_1 0), (19, s_1.commits.val), (20, i64 ((s_1.commits.l.map StateCommit.pl).length : Int)), (21, i64 x21_6), (5, ptr b5_9 0)]) [0, 3, 19, 20, 21, 5] rfl ?_
  refine Zq ?_
  refine VC.draw [(0, true), (1, true), (2, true), (3, true), (4, true), (5, true), (6, false), (7, false)] mixed (by kernel_rfl) (by kernel_rfl) (by kernel_rfl) ?_
  refine Zw rfl (q_move rfl) ?_
  refine Zw rfl (q_nilCheck rfl) ?_
  refine Zw rfl (q_field gfa157_0 rfl) ?_
  refine Zw rfl (q_field gfa110_1 rfl) ?_
  refine Zw rfl (q_fe gone32 rfl rfl) ?_
  refine Zw rfl (q_ln (s := z23_8.parents) Tryz.underlying32 rfl) ?_
  refine VD.one rfl ?_
  refine VL.lit (α := Int) (xs := [.tmp 34]) (vs := [i64 (z23_8.parents.l.length : Int)]) [(z23_8.parents.l.length : Int)] Tryz.underlying32 glit3 (by decide) rfl rfl rfl rfl (by decide) (fun _ _ _ _ => trivial) (by decide) (fun s35_11 hs35_11 => ?_) (by decide)
  replace hS := lt_to hs35_11 hS
  refine VL.back (D' := [(2, ptr w_0_b 0), (1, ptr w_0_b 0)]) (by kernel_rfl) (Pend.cons rfl (q_field gfa157_0 rfl) (Pend.cons rfl (q_nilCheck rfl) (Pend.nil))) ?_
  refine VD.one rfl ?_
  obtain ⟨y36_13, ey36_13, hS⟩ := bd_s hS
  refine VL.callO (codec_Enc_Int_ct w_0_b q28_10_0 s35_11 ey36_13) rfl (by decide) ?_
  rintro q36_13_0 rfl
  try dsimp only
  refine VL.back (D' := []) (by kernel_rfl) (Pend.nil) ?_
  refine VD.to (fun _ _ h => h) ?_
  refine VC.keep (ρ' := [(0, ptr w_0_b 0), (3, ptr b3_1 0), (19, s_1.commits.val), (20, i64 ((s_1.commits.l.map StateCommit.pl).length : Int)), (21, i64 x21_6), (5, ptr b5_9 0)]) [0, 3, 19, 20, 21, 5] rfl ?_
  refine Zq ?_
  refine VC.draw [(0, true), (1, true), (2, true), (3, true), (4, true), (5, false)] mixed (by kernel_rfl) (by kernel_rfl) (by kernel_rfl) ?_
  refine Zw rfl (q_move rfl) ?_
  refine Zw rfl (q_nilCheck rfl) ?_
  refine Zw rfl (q_field gfa157_0 rfl) ?_
  refine Zw rfl (q_field gfa110_1 rfl) ?_
  refine Zw rfl (q_fe gone32 rfl rfl) ?_
  refine VD.one rfl ?_
  obtain ⟨y42_14, ey42_14, hS⟩ := bd_s hS
  refine VL.callO (codec_Enc_Int_ct w_0_b q36_13_0 z23_8.parents ey42_14) rfl (by decide) ?_
  rintro q42_14_0 rfl
  try dsimp only
  refine VL.back (D' := []) (by kernel_rfl) (Pend.nil) ?_
  refine VD.to (fun _ _ h => h) ?_
  refine Zq ?_
  refine VC.draw [(0, true), (1, true), (2, true), (3, true), (4, true), (5, false), (6, false)] mixed (by kernel_rfl) (by kernel_rfl) (by kernel_rfl) ?_
  refine Zw rfl (q_move rfl) ?_
  refine Zw rfl (q_nilCheck rfl) ?_
  refine Zw rfl (q_field gfa157_0 rfl) ?_
  refine Zw rfl (q_field gfa110_2 rfl) ?_
  refine Zw rfl (q_fe gone3 rfl rfl) ?_
  refine VD.one rfl ?_
  refine VL.lit (α := Int) (xs := [.tmp 47]) (vs := [i64 z23_8.time]) [z23_8.time] Tryz.underlying32 glit3 (by decide) rfl rfl rfl rfl (by decide) (fun _ _ _ _ => trivial) (by decide) (fun s48_15 hs48_15 => ?_) (by decide)
  replace hS := lt_to hs48_15 hS
  refine VL.back (D' := [(2, ptr w_0_b 0), (1, ptr w_0_b 0)]) (by kernel_rfl) (Pend.cons rfl (q_field gfa157_0 rfl) (Pend.cons rfl (q_nilCheck rfl) (Pend.nil))) ?_
  refine VD.one rfl ?_
  obtain ⟨y49_17, ey49_17, hS⟩ := bd_s hS
  refine VL.callO (codec_Enc_Int_ct w_0_b q42_14_0 s48_15 ey49_17) rfl (by decide) ?_
  rintro q49_17_0 rfl
  try dsimp only
  refine VL.back (D' := []) (by kernel_rfl) (Pend.nil) ?_
  refine VD.to (fun _ _ h => h) ?_
  refine VC.keep (ρ' := [(0, ptr w_0_b 0), (3, ptr b3_1 0), (19, s_1.commits.val), (20, i64 ((s_1.commits.l.map StateCommit.pl).length : Int)), (21, i64 x21_6), (5, ptr b5_9 0)]) [0, 3, 19, 20, 21, 5] rfl ?_
  refine VC.draw [(0, true), (1, true), (2, true), (3, true), (4, true), (5, false), (6, false)] mixed (by kernel_rfl) (by kernel_rfl) (by kernel_rfl) ?_
  refine Zw rfl (q_move rfl) ?_
  refine Zw rfl (q_nilCheck rfl) ?_
  refine Zw rfl (q_field gfa157_0 rfl) ?_
  refine Zw rfl (q_field gfa110_3 rfl) ?_
  refine Zw rfl (q_fe gone9 rfl rfl) ?_
  refine VD.one rfl ?_
  refine VL.lit (α := Str) (xs := [.tmp 54]) (vs := [str z23_8.text]) [z23_8.text] Tryz.underlying89 glit9 (by decide) rfl rfl rfl rfl (by decide) (fun _ _ _ _ => trivial) (by decide) (fun s55_18 hs55_18 => ?_) (by decide)
  replace hS := lt_to hs55_18 hS
  refine VL.back (D' := [(2, ptr w_0_b 0), (1, ptr w_0_b 0)]) (by kernel_rfl) (Pend.cons rfl (q_field gfa157_0 rfl) (Pend.cons rfl (q_nilCheck rfl) (Pend.nil))) ?_
  refine VD.one rfl ?_
  obtain ⟨y56_20, ey56_20, hS⟩ := bd_s hS
  refine VL.callO (codec_Enc_Text_ct w_0_b q49_17_0 s55_18 ey56_20) rfl (by decide) ?_
  rintro q56_20_0 rfl
  try dsimp only
  refine VL.back (D' := []) (by kernel_rfl) (Pend.nil) ?_
  refine VD.to (fun _ _ h => h) ?_
  refine VC.keep (ρ' := [(0, ptr w_0_b 0), (3, ptr b3_1 0), (19, s_1.commits.val), (20, i64 ((s_1.commits.l.map StateCommit.pl).length : Int)), (21, i64 x21_6)]) [0, 3, 19, 20, 21] rfl ?_
  refine Zr ?_
  obtain ⟨b57, hS⟩ := gd_s hS
  refine Zu (q_add rfl rfl b57) ?_
  refine Zm ?_
  refine VL.rnd ((x21_6 + 1), q56_20_0.enc_b) [0, 3, 19, 20, 21] (fun _ _ h => h) (go2 hS hK1) rfl
 replace hS := up2 hS hK1
 refine Zx ?_
 refine Zq (Zr ?_)
 refine Zm ?_
 refine Zu (q_field gfa93_2 rfl) ?_
 refine Zu (q_field gfa91_0 rfl) ?_
 refine Zu (q_fe gone89 rfl rfl) ?_
 obtain ⟨y62_21, ey62_21, hS⟩ := bd_s hS
 refine VL.callO (state_writer_texts_ct w_0_b (⟨c0_7⟩ : StateWriter) s_1.log_back ey62_21) rfl (by decide) ?_
 rintro q62_21_0 rfl
 try dsimp only
 refine Zl ?_
 refine VC.keep (ρ' := [(0, ptr w_0_b 0), (3, ptr b3_1 0)]) [0, 3] rfl ?_
 refine Zq (Zr ?_)
 refine Zm ?_
 refine Zu (q_field gfa93_2 rfl) ?_
 refine Zu (q_field gfa91_1 rfl) ?_
 refine Zu (q_fe gone89 rfl rfl) ?_
 obtain ⟨y67_22, ey67_22, hS⟩ := bd_s hS
 refine VL.callO (state_writer_texts_ct w_0_b q62_21_0 s_1.log_forth ey67_22) rfl (by decide) ?_
 rintro q67_22_0 rfl
 try dsimp only
 refine Zl ?_
 refine VC.draw [(0, true), (1, true), (2, true), (3, true), (4, true), (5, false), (6, false)] mixed (by kernel_rfl) (by kernel_rfl) (by kernel_rfl) ?_
 refine Zw rfl (q_move rfl) ?_
 refine Zw rfl (q_nilCheck rfl) ?_
 refine Zw rfl (q_field gfa157_0 rfl) ?_
 refine Zw rfl (q_field gfa93_3 rfl) ?_
 refine Zw rfl (q_fe gone3 rfl rfl) ?_
 refine VD.one rfl ?_
 refine VL.lit (α := Int) (xs := [.tmp 72]) (vs := [i64 s_1.time]) [s_1.time] Tryz.underlying32 glit3 (by decide) rfl rfl rfl rfl (by decide) (fun _ _ _ _ => trivial) (by decide) (fun s73_23 hs73_23 => ?_) (by decide)
 replace hS := lt_to hs73_23 hS
 refine VL.back (D' := [(2, ptr w_0_b 0), (1, ptr w_0_b 0)]) (by kernel_rfl) (Pend.cons rfl (q_field gfa157_0 rfl) (Pend.cons rfl (q_nilCheck rfl) (Pend.nil))) ?_
 refine VD.one rfl ?_
 obtain ⟨y74_25, ey74_25, hS⟩ := bd_s hS
 refine VL.callO (codec_Enc_Int_ct w_0_b q67_22_0 s73_23 ey74_25) rfl (by decide) ?_
 rintro q74_25_0 rfl
 try dsimp only
 refine VL.back (D' := []) (by kernel_rfl) (Pend.nil) ?_
 cases hS
 exact VD.nil (fin0 (.inl rfl) rfl ⟨q74_25_0.enc_b⟩ rfl rfl (by (try dsimp only); exact InM.out) (by (try dsimp only); exact EntO.out))
theorem state_Encode_ct (s_0 : StateState) {r : List UInt8} (hS : Sh.state_Encode s_0.pl = some r) :
 Ct Tryz.prog 31 [.agg (zStateState s_0).toArray] (s_0.now_work.ok.and (s_0.now_index.ok.and (s_0.now_refs.ok.and (s_0.now_seq_doing.ok.and (s_0.now_seq_todo.ok.and (s_0.now_seq_index.ok.and (s_0.now_seq_work.ok.and (s_0.now_stash.ok.and (s_0.commits.ok.and (s_0.log_back.ok.and s_0.log_forth.ok)))))))))) (Ow.emp) (X := Sv UInt8) (fun x => x.val) (fun x => r = x.l) (fun x => x.ok) (fun x => Ow.emp) := by
 refine Zo Tryz.func31 Tryz.ntmps31 fun c => ?_
 unfold Sh.state_Encode at hS
 refine Zq (Zr ?_)
 refine VL.box (cs := (zStateState s_0)) rfl rfl (by decide) fun b1_1 => ?_
 refine Zy ?_
 refine Zq (Zr ?_)
 refine VL.alloc (cs := [.slice none 0 0]) (by kernel_rfl) (by decide) fun b3_2 => ?_
 refine Zl ?_
 refine Zq (Zr ?_)
 refine Zu (q_fes gagg93 rfl rfl) ?_
 refine VL.nilO (⟨none, 0, []⟩ : Sv UInt8) 5 ⟨rfl, rfl⟩ ?_
 refine VL.reB b3_2 (cs' := [(⟨none, 0, []⟩ : Sv UInt8).val]) rfl ?_
 obtain ⟨y5_3, ey5_3, hS⟩ := bd_s hS
 refine VL.callO (state_writer_state_ct b3_2 (⟨(⟨none, 0, []⟩ : Sv UInt8)⟩ : StateWriter) s_0 ey5_3) rfl (by decide) ?_
 rintro q5_3_0 rfl
 try dsimp only
 refine Zl ?_
 refine Zq (Zr ?_)
 refine Zu (q_field gfa157_0 rfl) ?_
 obtain ⟨y7_4, ey7_4, hS⟩ := bd_s hS
 refine VL.callO (codec_Enc_Bytes_ct b3_2 q5_3_0 ey7_4) rfl (by decide) ?_
 rintro q7_4_0 rfl
 try dsimp only
 refine Zy ?_
 cases hS
 exact VC.ret (fin1 (.inr rfl) rfl rfl q7_4_0 rfl rfl (by (try dsimp only); exact InM.out) (fun _ _ => trivial))
theorem state_reader_numbers_1_ct (a_0_b : Nat) (a_0 : Sv Int) (a_1_b : Nat) (a_1__b : Nat) (a_1_ : StateReader) (a_1__dec_b : Nat) (a_1__dec : CodecDec) {r : List Int × CodecDecP} (hS : Sh.state_reader_numbers_1 a_0.l a_1_ a_1__dec.pl = some r) :
 Ct Tryz.prog 211 [ptr a_0_b 0, ptr a_1_b 0] (a_1__dec.b.ok.and a_1__dec.err.ok) (Ow.star (Sv.own a_0 3) (Ow.star (Blk a_0_b [a_0.val] 32) (Ow.star (Blk a_1__dec_b [a_1__dec.b.val, i64 a_1__dec.at_, a_1__dec.err.val] 233) (Ow.star (Blk a_1__b [ptr a_1__dec_b 0, .bool a_1_.bad] 161) (Blk a_1_b [ptr a_1__b 0] 159))))) (X := Sv Int × CodecDec) (fun x => .tuple #[]) (fun x => r = (x.1.l, x.2.pl)) (fun x => (x.2.b.ok.and x.2.err.ok)) (fun x => Ow.star (Blk a_0_b [x.1.val] 32) (Ow.star (Sv.own x.1 3) (Ow.star (Blk a_1__dec_b [x.2.b.val, i64 x.2.at_, x.2.err.val] 233) (Ow.star (Blk a_1__b [ptr a_1__dec_b 0, .bool a_1_.bad] 161) (Blk a_1_b [ptr a_1__b 0] 159))))) := by
 refine Zo Tryz.func211 Tryz.ntmps211 fun c => ?_
 unfold Sh.state_reader_numbers_1 at hS
 refine VC.draw [(0, true), (1, true), (2, true), (3, true), (4, true), (5, false), (6, false), (7, false), (8, false)] mixed (by kernel_rfl) (by kernel_rfl) (by kernel_rfl) ?_
 refine Zw rfl (q_fe gone32 rfl rfl) ?_
 refine Zw rfl (q_fe gone159 rfl rfl) ?_
 refine Zw rfl (q_nilCheck rfl) ?_
 refine Zw rfl (q_field gfa161_0 rfl) ?_
 refine Zw rfl (q_fe gone129 rfl rfl) ?_
 refine VD.one rfl ?_
 obtain ⟨y7_1, ey7_1, hS⟩ := bd_s hS
 refine VL.callO (codec_Dec_Int_ct a_1__dec_b a_1__dec ey7_1) rfl (by decide) ?_
 rintro ⟨q7_1_0, q7_1_1⟩ rfl
 try dsimp only
 refine VL.back (D' := [(0, a_0.val)]) (by kernel_rfl) (Pend.cons rfl (q_fe gone32 rfl rfl) (Pend.nil)) ?_
 refine VD.one rfl ?_
 refine VL.lit (α := Int) (xs := [.tmp 7]) (vs := [i64 q7_1_0]) [q7_1_0] Tryz.underlying32 glit3 (by decide) rfl rfl rfl rfl (by decide) (fun _ _ _ _ => trivial) (by decide) (fun s8_2 hs8_2 => ?_) (by decide)
 replace hS := lt_to hs8_2 hS
 refine VL.back (D' := [(0, a_0.val)]) (by kernel_rfl) (Pend.cons rfl (q_fe gone32 rfl rfl) (Pend.nil)) ?_
 refine VD.one rfl ?_
 obtain ⟨b9, hS⟩ := gd_s hS
 refine VL.app (s := a_0) (r := s8_2) Tryz.underlying32 gapp3 (by decide) rfl Fo.out (ap1 b9) (ap2 b9 (by decide)) (by decide) (fun s9_4 hs9_4 => ?_)
 replace hS := lt_to hs9_4 hS
 refine VL.back (D' := []) (by kernel_rfl) (Pend.nil) ?_
 refine VD.one rfl ?_
 refine Zv (vc := [s9_4.val]) (cs' := [s9_4.val]) rfl gsz32 ?_
 refine VL.back (D' := []) (by kernel_rfl) (Pend.nil) ?_
 cases hS
 exact VD.nil (fin0 (.inl rfl) rfl (s9_4, ⟨q7_1_1.b, q7_1_1.at_, q7_1_1.err⟩) rfl rfl (by (try dsimp only); exact InM.out) (by (try dsimp only); exact EntO.out))
theorem state_reader_many_v7_ct (r_0_b : Nat) (r_0 : StateReader) (r_0_dec_b : Nat) (r_0_dec : CodecDec) (one_1_0_b : Nat) (one_1_0 : Sv Int) (one_1_1_b : Nat) {r : CodecDecP × StateReader × List Int} (hS : Sh.state_reader_many_v7 r_0 r_0_dec.pl one_1_0.l = some r) :
 Ct Tryz.prog 142 [ptr r_0_b 0, .func (.func 211) #[] #[ptr one_1_0_b 0, ptr one_1_1_b 0]] (r_0_dec.b.ok.and r_0_dec.err.ok) (Ow.star (Blk r_0_dec_b [r_0_dec.b.val, i64 r_0_dec.at_, r_0_dec.err.val] 233) (Ow.star (Blk r_0_b [ptr r_0_dec_b 0, .bool r_0.bad] 161) (Ow.star (Sv.own one_1_0 3) (Ow.star (Blk one_1_0_b [one_1_0.val] 32) (Blk one_1_1_b [ptr r_0_b 0] 159))))) (X := CodecDec × StateReader × Sv Int) (fun x => .tuple #[]) (fun x => r = (x.1.pl, x.2.1, x.2.2.l)) (fun x => (x.1.b.ok.and x.1.err.ok)) (fun x => Ow.star (Blk r_0_dec_b [x.1.b.val, i64 x.1.at_, x.1.err.val] 233) (Ow.star (Blk r_0_b [ptr r_0_dec_b 0, .bool x.2.1.bad] 161) (Ow.star (Blk one_1_0_b [x.2.2.val] 32) (Ow.star (Sv.own x.2.2 3) (Blk one_1_1_b [ptr r_0_b 0] 159))))) := by
 refine Zo Tryz.func142 Tryz.ntmps142 fun c => ?_
 unfold Sh.state_reader_many_v7 at hS
 refine Zq (Zr ?_)
 refine Zm ?_
 refine Zu (q_nilCheck rfl) ?_
 refine Zu (q_field gfa161_0 rfl) ?_
 refine Zu (q_fe gone129 rfl rfl) ?_
 obtain ⟨y10_1, ey10_1, hS⟩ := bd_s hS
 refine VL.callO (codec_Dec_Int_ct r_0_dec_b r_0_dec ey10_1) rfl (by decide) ?_
 rintro ⟨q10_1_0, q10_1_1⟩ rfl
 try dsimp only
 refine Zy ?_
 refine VC.cutJ (S := Bool) (fun (c1_2 : Bool) => c1_2) (fun (c1_2 : Bool) => [(0, ptr r_0_b 0), (1, .func (.func 211) #[] #[ptr one_1_0_b 0, ptr one_1_1_b 0]), (4, i64 q10_1_0)]) (fun (c1_2 : Bool) => Mo.tt) (fun (c1_2 : Bool) => Ow.star (Blk r_0_dec_b [q10_1_1.b.val, i64 q10_1_1.at_, q10_1_1.err.val] 233) (Ow.star (Blk r_0_b [ptr r_0_dec_b 0, .bool c1_2] 161) (Ow.star (Blk one_1_0_b [one_1_0.val] 32) (Ow.star (Blk one_1_1_b [ptr r_0_b 0] 159) (Ow.star (Sv.own one_1_0 3) (Ow.emp)))))) hS ?_ ?_
 ·
  clear hS
  intro k3 hS
  refine Zr ?_
  refine Zy ?_
  refine Zu (q_nilCheck rfl) ?_
  refine Zu (q_field gfa161_1 rfl) ?_
  refine Zu (q_fe gone4 rfl rfl) ?_
  refine Zm ?_
  refine Zspb 16 hS (fun h16 hS => ?_) (fun h16 hS => ?_)
  ·
   refine VL.runs 3 [(19, some true)] (by kernel_rfl) ?_
   refine Zu (q_nilCheck rfl) ?_
   refine Zu (q_field gfa161_1 rfl) ?_
   refine Zv (vc := [.bool true]) (cs' := [ptr r_0_dec_b 0, .bool true]) rfl gsz4 ?_
   refine VL.mt true [0, 1, 4] (fun _ _ h => h) hS rfl
  refine Zg ?_
  refine Zh (q_lss rfl rfl) ?_
  refine Zf ?_
  refine Zu (q_nilCheck rfl) ?_
  refine Zu (q_field gfa161_1 rfl) ?_
  refine Zv (vc := [.bool (decide (q10_1_0 < 0))]) (cs' := [ptr r_0_dec_b 0, .bool (decide (q10_1_0 < 0))]) rfl gsz4 ?_
  refine VL.mt (decide (q10_1_0 < 0)) [0, 1, 4] (fun _ _ h => h) hS rfl
 clear hS
 rintro c1_2 hS
 refine Zq (Zr ?_)
 refine Zy ?_
 refine Zb ?_
 refine VC.iter (S := Int × Sv UInt8 × Int × Er × Sv Int) (fun sg => (sg.1, sg.2.1.l, sg.2.2.1, sg.2.2.2.1.pl, sg.2.2.2.2.l)) (fun sg => [(0, ptr r_0_b 0), (1, .func (.func 211) #[] #[ptr one_1_0_b 0, ptr one_1_1_b 0]), (4, i64 q10_1_0), (5, i64 sg.1)]) (fun sg => (sg.2.1.ok.and sg.2.2.2.1.ok)) (fun sg => Ow.star (Blk r_0_dec_b [sg.2.1.val, i64 sg.2.2.1, sg.2.2.2.1.val] 233) (Ow.star (Blk r_0_b [ptr r_0_dec_b 0, .bool c1_2] 161) (Ow.star (Blk one_1_0_b [sg.2.2.2.2.val] 32) (Ow.star (Blk one_1_1_b [ptr r_0_b 0] 159) (Ow.star (Sv.own sg.2.2.2.2 3) (Ow.emp)))))) (0, q10_1_1.b, q10_1_1.at_, q10_1_1.err, one_1_0) [0, 1, 4, 5] hS rfl ?_
 clear hS
 rintro ⟨i5_4, c0_5, c1_6, c2_7, c0_8⟩ m1 y1 hS hK1
 refine Zq (Zq (Zr ?_))
 refine Zy ?_
 refine Zu (q_lss rfl rfl) ?_
 refine Zm ?_
 refine Zsp 25 hS (fun h25 hS => ?_) (fun h25 hS => ?_)
 ·
  refine Zg ?_
  refine Zh (q_nilCheck rfl) ?_
  refine Zh (q_field gfa161_0 rfl) ?_
  refine Zh (q_fe gone129 rfl rfl) ?_
  refine VL.guard rfl rfl ?_
  obtain ⟨y30_9, ey30_9, hS⟩ := bd_s hS
  refine VL.callO (codec_Dec_Err_ct r_0_dec_b (⟨c0_5, c1_6, c2_7⟩ : CodecDec) ey30_9) rfl (by decide) ?_
  rintro q30_9_0 rfl
  try dsimp only
  refine Zh (q_ereq Tryz.underlying26 rfl) ?_
  refine Zy ?_
  refine VC.keep (ρ' := [(0, ptr r_0_b 0), (1, .func (.func 211) #[] #[ptr one_1_0_b 0, ptr one_1_1_b 0]), (4, i64 q10_1_0), (5, i64 i5_4), (32, .bool (decide (q30_9_0.pl.isNil = true)))]) [0, 1, 4, 5, 32] rfl ?_
  refine Zc hS (fun h32 hS => ?_) (fun h32 hS => ?_)
  ·
   refine Zk ?_
   refine Zq (Zb (Zr ?_))
   refine Zm ?_
   obtain ⟨y36_10, ey36_10, hS⟩ := bd_s hS
   refine VL.callOV (vs := []) (caps := [ptr one_1_0_b 0, ptr one_1_1_b 0]) (state_reader_numbers_1_ct one_1_0_b c0_8 one_1_1_b r_0_b (⟨c1_2⟩ : StateReader) r_0_dec_b (⟨c0_5, c1_6, c2_7⟩ : CodecDec) ey36_10) rfl rfl (by decide) ?_
   rintro ⟨q36_10_0, q36_10_1⟩ rfl
   try dsimp only
   refine Zl ?_
   refine Zr ?_
   refine Zm ?_
   obtain ⟨b34, hS⟩ := gd_s hS
   refine Zu (q_add rfl rfl b34) ?_
   refine Za ?_
   refine VL.rnd ((i5_4 + 1), q36_10_1.b, q36_10_1.at_, q36_10_1.err, q36_10_0) [0, 1, 4, 5] (fun _ _ h => h) (go2 hS hK1) rfl
  replace hS := up2 hS hK1
  cases hS
  exact VC.exit (fin0 (.inl rfl) rfl (⟨c0_5, c1_6, c2_7⟩, ⟨c1_2⟩, c0_8) rfl rfl (by (try dsimp only); exact InM.out) (by (try dsimp only); exact EntO.out))
 refine VL.runs 7 [(32, some false)] (by kernel_rfl) ?_
 refine Zl ?_
 refine VC.cond_f rfl ?_
 replace hS := up2 hS hK1
 cases hS
 exact VC.exit (fin0 (.inl rfl) rfl (⟨c0_5, c1_6, c2_7⟩, ⟨c1_2⟩, c0_8) rfl rfl (by (try dsimp only); exact InM.out) (by (try dsimp only); exact EntO.out))
theorem slices_Clip_int_int_ct (s_0 : Sv Int) {r : List Int} (hS : Sh.slices_Clip_int_int s_0.l = some r) :
 Ct Tryz.prog 88 [s_0.val] s_0.ok (Ow.emp) (X := Sv Int) (fun x => x.val) (fun x => r = x.l) (fun x => x.ok) (fun x => Ow.emp) := by
 refine Zo Tryz.func88 Tryz.ntmps88 fun c => ?_
 unfold Sh.slices_Clip_int_int at hS
 refine Zq (Zr ?_)
 refine Zy ?_
 refine Zq (Zr ?_)
 refine Zy ?_
 refine Zu (q_ln (s := s_0) Tryz.underlying32 rfl) ?_
 refine Zm ?_
 refine Zu (q_ln (s := s_0) Tryz.underlying32 rfl) ?_
 obtain ⟨b8, hS⟩ := gd_s hS
 refine VL.stom Tryz.underlying32 gsz3 rfl rfl rfl b8.1 (b8.2) (by decide) fun s8_1 hs8_1 => ?_
 replace hS := lt_to hs8_1 hS
 refine Zy ?_
 cases hS
 exact VC.ret (fin1 (.inr rfl) rfl rfl s8_1 rfl rfl (by (try dsimp only); exact InM.out) (fun _ _ => trivial))
theorem state_reader_numbers_ct (r_0_b : Nat) (r_0 : StateReader) (r_0_dec_b : Nat) (r_0_dec : CodecDec) {r : List Int × CodecDecP × StateReader} (hS : Sh.state_reader_numbers r_0 r_0_dec.pl = some r) :
 Ct Tryz.prog 162 [ptr r_0_b 0] (r_0_dec.b.ok.and r_0_dec.err.ok) (Ow.star (Blk r_0_dec_b [r_0_dec.b.val, i64 r_0_dec.at_, r_0_dec.err.val] 233) (Blk r_0_b [ptr r_0_dec_b 0, .bool r_0.bad] 161)) (X := Sv Int × CodecDec × StateReader) (fun x => x.1.val) (fun x => r = (x.1.l, x.2.1.pl, x.2.2)) (fun x => (x.1.ok.and (x.2.1.b.ok.and x.2.1.err.ok))) (fun x => Ow.star (Blk r_0_dec_b [x.2.1.b.val, i64 x.2.1.at_, x.2.1.err.val] 233) (Blk r_0_b [ptr r_0_dec_b 0, .bool x.2.2.bad] 161)) := by
 refine Zo Tryz.func162 Tryz.ntmps162 fun c => ?_
 unfold Sh.state_reader_numbers at hS
 refine Zq (Zr ?_)
 refine VL.box (cs := [ptr r_0_b 0]) rfl rfl (by decide) fun b1_1 => ?_
 refine Zy ?_
 refine Zq (Zr ?_)
 refine VL.alloc (cs := [.slice none 0 0]) (by kernel_rfl) (by decide) fun b3_2 => ?_
 refine Zl ?_
 refine Zq (Zr ?_)
 refine Zu (q_fe gone159 rfl rfl) ?_
 refine Zu (q_mkfn rfl) ?_
 refine VL.nilO (⟨none, 0, []⟩ : Sv Int) 3 ⟨rfl, rfl⟩ ?_
 refine VL.reB b3_2 (cs' := [(⟨none, 0, []⟩ : Sv Int).val]) rfl ?_
 obtain ⟨y6_3, ey6_3, hS⟩ := bd_s hS
 refine VL.callO (state_reader_many_v7_ct r_0_b r_0 r_0_dec_b r_0_dec b3_2 (⟨none, 0, []⟩ : Sv Int) b1_1 ey6_3) rfl (by decide) ?_
 rintro ⟨q6_3_0, q6_3_1, q6_3_2⟩ rfl
 try dsimp only
 refine Zl ?_
 refine Zq (Zr ?_)
 refine Zu (q_fe gone32 rfl rfl) ?_
 refine VL.shut q6_3_2 3 (fun _ _ _ _ => trivial) ?_
 obtain ⟨y8_4, ey8_4, hS⟩ := bd_s hS
 refine VL.callF (slices_Clip_int_int_ct q6_3_2 ey8_4) rfl (by decide) ?_
 rintro q8_4_0 rfl
 try dsimp only
 refine Zy ?_
 cases hS
 exact VC.ret (fin1 (.inr rfl) rfl rfl (q8_4_0, ⟨q6_3_0.b, q6_3_0.at_, q6_3_0.err⟩, ⟨q6_3_1.bad⟩) rfl rfl (by (try dsimp only); exact InM.out) (by (try dsimp only); exact EntO.out))
theorem state_reader_state_1_ct (a_0_b : Nat) (a_0 : StateState) (a_1_b : Nat) (a_1__b : Nat) (a_1_ : StateReader) (a_1__dec_b : Nat) (a_1__dec : CodecDec) {r : StateStateP × CodecDecP × StateReader} (hS : Sh.state_reader_state_1 a_0.pl a_1_ a_1__dec.pl = some r) :
 Ct Tryz.prog 161 [ptr a_0_b 0, ptr a_1_b 0] (a_0.now_work.ok.and (a_0.now_index.ok.and (a_0.now_refs.ok.and (a_0.now_seq_doing.ok.and (a_0.now_seq_todo.ok.and (a_0.now_seq_index.ok.and (a_0.now_seq_work.ok.and (a_0.now_stash.ok.and ((MAl a_0.commits.l).and (a_0.log_back.ok.and (a_0.log_forth.ok.and (a_1__dec.b.ok.and a_1__dec.err.ok)))))))))))) (Ow.star (Sv.own a_0.commits 110) (Ow.star (Blk a_0_b (zStateState a_0) 93) (Ow.star (Blk a_1__dec_b [a_1__dec.b.val, i64 a_1__dec.at_, a_1__dec.err.val] 233) (Ow.star (Blk a_1__b [ptr a_1__dec_b 0, .bool a_1_.bad] 161) (Blk a_1_b [ptr a_1__b 0] 159))))) (X := StateState × CodecDec × StateReader) (fun x => .tuple #[]) (fun x => r = (x.1.pl, x.2.1.pl, x.2.2)) (fun x => (x.1.now_work.ok.and (x.1.now_index.ok.and (x.1.now_refs.ok.and (x.1.now_seq_doing.ok.and (x.1.now_seq_todo.ok.and (x.1.now_seq_index.ok.and (x.1.now_seq_work.ok.and (x.1.now_stash.ok.and ((MAl x.1.commits.l).and (x.1.log_back.ok.and (x.1.log_forth.ok.and (x.2.1.b.ok.and x.2.1.err.ok))))))))))))) (fun x => Ow.star (Blk a_0_b (zStateState x.1) 93) (Ow.star (Sv.own x.1.commits 110) (Ow.star (Blk a_1__dec_b [x.2.1.b.val, i64 x.2.1.at_, x.2.1.err.val] 233) (Ow.star (Blk a_1__b [ptr a_1__dec_b 0, .bool x.2.2.bad] 161) (Blk a_1_b [ptr a_1__b 0] 159))))) := by
 refine Zo Tryz.func161 Tryz.ntmps161 fun c => ?_
 unfold Sh.state_reader_state_1 at hS
 refine VC.draw [(0, true), (1, true), (2, true), (4, true), (6, true), (7, true), (8, true), (9, true), (11, true), (12, true), (13, true), (14, true), (3, false), (5, false), (10, false), (15, false), (16, true), (17, false), (18, false), (19, true), (20, false)] mixed (by kernel_rfl) (by kernel_rfl) (by kernel_rfl) ?_
 refine Zw rfl (q_field gfa93_1 rfl) ?_
 refine Zw rfl (q_fe gone68 rfl rfl) ?_
 refine Zw rfl (q_fe gone159 rfl rfl) ?_
 refine Zw rfl (q_fe gone159 rfl rfl) ?_
 refine Zw rfl (q_fe gone159 rfl rfl) ?_
 refine Zw rfl (q_nilCheck rfl) ?_
 refine Zw rfl (q_field gfa161_0 rfl) ?_
 refine Zw rfl (q_fe gone129 rfl rfl) ?_
 refine Zw rfl (q_fe gone159 rfl rfl) ?_
 refine Zw rfl (q_nilCheck rfl) ?_
 refine Zw rfl (q_field gfa161_0 rfl) ?_
 refine Zw rfl (q_fe gone129 rfl rfl) ?_
 refine VD.one rfl ?_
 obtain ⟨y5_1, ey5_1, hS⟩ := bd_s hS
 refine VL.callO (state_reader_row_ct a_1__b a_1_ a_1__dec_b a_1__dec ey5_1) rfl (by decide) ?_
 rintro ⟨q5_1_0, q5_1_1, q5_1_2⟩ rfl
 try dsimp only
 refine VL.back (D' := [(14, ptr a_1__dec_b 0), (13, ptr a_1__b 0), (12, ptr a_1__b 0), (11, ptr a_1__b 0), (9, ptr a_1__dec_b 0), (8, ptr a_1__b 0), (7, ptr a_1__b 0), (6, ptr a_1__b 0), (4, ptr a_1__b 0), (1, a_0.commits.val), (0, ptr a_0_b 17)]) (by kernel_rfl) (Pend.cons rfl (q_fe gone129 rfl rfl) (Pend.cons rfl (q_field gfa161_0 rfl) (Pend.cons rfl (q_nilCheck rfl) (Pend.cons rfl (q_fe gone159 rfl rfl) (Pend.cons rfl (q_fe gone129 rfl rfl) (Pend.cons rfl (q_field gfa161_0 rfl) (Pend.cons rfl (q_nilCheck rfl) (Pend.cons rfl (q_fe gone159 rfl rfl) (Pend.cons rfl (q_fe gone159 rfl rfl) (Pend.cons rfl (q_fe gone68 rfl rfl) (Pend.cons rfl (q_field gfa93_1 rfl) (Pend.nil)))))))))))) ?_
 refine VD.one rfl ?_
 obtain ⟨y7_2, ey7_2, hS⟩ := bd_s hS
 refine VL.callO (state_reader_numbers_ct a_1__b q5_1_2 a_1__dec_b q5_1_1 ey7_2) rfl (by decide) ?_
 rintro ⟨q7_2_0, q7_2_1, q7_2_2⟩ rfl
 try dsimp only
 refine VL.back (D' := [(14, ptr a_1__dec_b 0), (13, ptr a_1__b 0), (12, ptr a_1__b 0), (11, ptr a_1__b 0), (9, ptr a_1__dec_b 0), (8, ptr a_1__b 0), (7, ptr a_1__b 0), (6, ptr a_1__b 0), (1, a_0.commits.val), (0, ptr a_0_b 17)]) (by kernel_rfl) (Pend.cons rfl (q_fe gone129 rfl rfl) (Pend.cons rfl (q_field gfa161_0 rfl) (Pend.cons rfl (q_nilCheck rfl) (Pend.cons rfl (q_fe gone159 rfl rfl) (Pend.cons rfl (q_fe gone129 rfl rfl) (Pend.cons rfl (q_field gfa161_0 rfl) (Pend.cons rfl (q_nilCheck rfl) (Pend.cons rfl (q_fe gone159 rfl rfl) (Pend.cons rfl (q_fe gone68 rfl rfl) (Pend.cons rfl (q_field gfa93_1 rfl) (Pend.nil))))))))))) ?_
 refine VD.one rfl ?_
 obtain ⟨y12_3, ey12_3, hS⟩ := bd_s hS
 refine VL.callO (codec_Dec_Int_ct a_1__dec_b q7_2_1 ey12_3) rfl (by decide) ?_
 rintro ⟨q12_3_0, q12_3_1⟩ rfl
 try dsimp only
 refine VL.back (D' := [(14, ptr a_1__dec_b 0), (13, ptr a_1__b 0), (12, ptr a_1__b 0), (11, ptr a_1__b 0), (1, a_0.commits.val), (0, ptr a_0_b 17)]) (by kernel_rfl) (Pend.cons rfl (q_fe gone129 rfl rfl) (Pend.cons rfl (q_field gfa161_0 rfl) (Pend.cons rfl (q_nilCheck rfl) (Pend.cons rfl (q_fe gone159 rfl rfl) (Pend.cons rfl (q_fe gone68 rfl rfl) (Pend.cons rfl (q_field gfa93_1 rfl) (Pend.nil))))))) ?_
 refine VD.one rfl ?_
 obtain ⟨y17_4, ey17_4, hS⟩ := bd_s hS
 refine VL.callO (codec_Dec_Text_ct a_1__dec_b q12_3_1 ey17_4) rfl (by decide) ?_
 rintro ⟨q17_4_0, q17_4_1⟩ rfl
 try dsimp only
 refine VL.back (D' := [(1, a_0.commits.val), (0, ptr a_0_b 17)]) (by kernel_rfl) (Pend.cons rfl (q_fe gone68 rfl rfl) (Pend.cons rfl (q_field gfa93_1 rfl) (Pend.nil))) ?_
 refine Zw rfl (q_build (vs := [(0, q5_1_0.val), (1, q7_2_0.val), (2, i64 q12_3_0), (3, str q17_4_0)]) (cs := #[q5_1_0.val, q7_2_0.val, i64 q12_3_0, str q17_4_0]) rfl (by kernel_rfl)) ?_
 refine VD.one rfl ?_
 refine VL.lit (α := StateCommit) (xs := [.tmp 18]) (vs := [.agg #[q5_1_0.val, q7_2_0.val, i64 q12_3_0, str q17_4_0]]) [⟨q5_1_0, q7_2_0, q12_3_0, q17_4_0⟩] Tryz.underlying68 glit110 (by decide) rfl rfl rfl rfl (by decide) (fun h m => List.forall_mem_cons.2 ⟨InM.out (X := (q5_1_0.ok.and q7_2_0.ok)) h m, fun _ h => by cases h⟩) (by decide) (fun s19_5 hs19_5 => ?_) (by decide)
 replace hS := lt_to (congrArg (List.map StateCommit.pl) hs19_5) hS
 refine VL.back (D' := [(1, a_0.commits.val), (0, ptr a_0_b 17)]) (by kernel_rfl) (Pend.cons rfl (q_fe gone68 rfl rfl) (Pend.cons rfl (q_field gfa93_1 rfl) (Pend.nil))) ?_
 refine VD.one rfl ?_
 obtain ⟨b20, hS⟩ := gd_s hS
 refine VL.app (s := a_0.commits) (r := s19_5) Tryz.underlying68 gapp110 (by decide) rfl Fo.out (ap1 (apm b20)) (ap2 (apm b20) (by decide)) (by decide) (fun s20_7 hs20_7 => ?_)
 replace hS := lt_to ((congrArg (List.map StateCommit.pl) hs20_7).trans List.map_append) hS
 refine VL.maApp hs20_7 ?_
 refine VL.back (D' := []) (by kernel_rfl) (Pend.nil) ?_
 refine Zw rfl (q_field gfa93_1 rfl) ?_
 refine VD.one rfl ?_
 refine Zv (vc := [s20_7.val]) (cs' := [a_0.now_work.val, a_0.now_index.val, a_0.now_refs.val, str a_0.now_head_branch, i64 a_0.now_head_commit, str a_0.now_seq_kind, i64 a_0.now_seq_other, str a_0.now_seq_text, a_0.now_seq_doing.val, a_0.now_seq_todo.val, i64 a_0.now_seq_made, str a_0.now_seq_branch, str a_0.now_seq_head_branch, i64 a_0.now_seq_head_commit, a_0.now_seq_index.val, a_0.now_seq_work.val, a_0.now_stash.val, s20_7.val, a_0.log_back.val, a_0.log_forth.val, i64 a_0.time]) rfl gsz68 ?_
 refine VL.back (D' := []) (by kernel_rfl) (Pend.nil) ?_
 cases hS
 exact VD.nil (fin0 (.inl rfl) rfl (⟨a_0.now_work, a_0.now_index, a_0.now_refs, a_0.now_head_branch, a_0.now_head_commit, a_0.now_seq_kind, a_0.now_seq_other, a_0.now_seq_text, a_0.now_seq_doing, a_0.now_seq_todo, a_0.now_seq_made, a_0.now_seq_branch, a_0.now_seq_head_branch, a_0.now_seq_head_commit, a_0.now_seq_index, a_0.now_seq_work, a_0.now_stash, s20_7, a_0.log_back, a_0.log_forth, a_0.time⟩, ⟨q17_4_1.b, q17_4_1.at_, q17_4_1.err⟩, ⟨q7_2_2.bad⟩) rfl rfl (by (try dsimp only); exact InM.out) (by (try dsimp only); exact EntO.out))
theorem state_reader_many_v6_ct (r_0_b : Nat) (r_0 : StateReader) (r_0_dec_b : Nat) (r_0_dec : CodecDec) (one_1_0_b : Nat) (one_1_0 : StateState) (one_1_1_b : Nat) {r : CodecDecP × StateReader × StateStateP} (hS : Sh.state_reader_many_v6 r_0 r_0_dec.pl one_1_0.pl = some r) :
 Ct Tryz.prog 142 [ptr r_0_b 0, .func (.func 161) #[] #[ptr one_1_0_b 0, ptr one_1_1_b 0]] (r_0_dec.b.ok.and (r_0_dec.err.ok.and (one_1_0.now_work.ok.and (one_1_0.now_index.ok.and (one_1_0.now_refs.ok.and (one_1_0.now_seq_doing.ok.and (one_1_0.now_seq_todo.ok.and (one_1_0.now_seq_index.ok.and (one_1_0.now_seq_work.ok.and (one_1_0.now_stash.ok.and ((MAl one_1_0.commits.l).and (one_1_0.log_back.ok.and one_1_0.log_forth.ok)))))))))))) (Ow.star (Blk r_0_dec_b [r_0_dec.b.val, i64 r_0_dec.at_, r_0_dec.err.val] 233) (Ow.star (Blk r_0_b [ptr r_0_dec_b 0, .bool r_0.bad] 161) (Ow.star (Sv.own one_1_0.commits 110) (Ow.star (Blk one_1_0_b (zStateState one_1_0) 93) (Blk one_1_1_b [ptr r_0_b 0] 159))))) (X := CodecDec × StateReader × StateState) (fun x => .tuple #[]) (fun x => r = (x.1.pl, x.2.1, x.2.2.pl)) (fun x => (x.1.b.ok.and (x.1.err.ok.and (x.2.2.now_work.ok.and (x.2.2.now_index.ok.and (x.2.2.now_refs.ok.and (x.2.2.now_seq_doing.ok.and (x.2.2.now_seq_todo.ok.and (x.2.2.now_seq_index.ok.and (x.2.2.now_seq_work.ok.and (x.2.2.now_stash.ok.and ((MAl x.2.2.commits.l).and (x.2.2.log_back.ok.and x.2.2.log_forth.ok))))))))))))) (fun x => Ow.star (Blk r_0_dec_b [x.1.b.val, i64 x.1.at_, x.1.err.val] 233) (Ow.star (Blk r_0_b [ptr r_0_dec_b 0, .bool x.2.1.bad] 161) (Ow.star (Blk one_1_0_b (zStateState x.2.2) 93) (Ow.star (Sv.own x.2.2.commits 110) (Blk one_1_1_b [ptr r_0_b 0] 159))))) := by
 refine Zo Tryz.func142 Tryz.ntmps142 fun c => ?_
 unfold Sh.state_reader_many_v6 at hS
 refine Zq (Zr ?_)
 refine Zm ?_
 refine Zu (q_nilCheck rfl) ?_
 refine Zu (q_field gfa161_0 rfl) ?_
 refine Zu (q_fe gone129 rfl rfl) ?_
 obtain ⟨y10_1, ey10_1, hS⟩ := bd_s hS
 refine VL.callO (codec_Dec_Int_ct r_0_dec_b r_0_dec ey10_1) rfl (by decide) ?_
 rintro ⟨q10_1_0, q10_1_1⟩ rfl
 try dsimp only
 refine Zy ?_
 refine VC.cutJ (S := Bool) (fun (c1_2 : Bool) => c1_2) (fun (c1_2 : Bool) => [(0, ptr r_0_b 0), (1, .func (.func 161) #[] #[ptr one_1_0_b 0, ptr one_1_1_b 0]), (4, i64 q10_1_0)]) (fun (c1_2 : Bool) => Mo.tt) (fun (c1_2 : Bool) => Ow.star (Blk r_0_dec_b [q10_1_1.b.val, i64 q10_1_1.at_, q10_1_1.err.val] 233) (Ow.star (Blk r_0_b [ptr r_0_dec_b 0, .bool c1_2] 161) (Ow.star (Blk one_1_0_b (zStateState one_1_0) 93) (Ow.star (Blk one_1_1_b [ptr r_0_b 0] 159) (Ow.star (Sv.own one_1_0.commits 110) (Ow.emp)))))) hS ?_ ?_
 ·
  clear hS
  intro k3 hS
  refine Zr ?_
  refine Zy ?_
  refine Zu (q_nilCheck rfl) ?_
  refine Zu (q_field gfa161_1 rfl) ?_
  refine Zu (q_fe gone4 rfl rfl) ?_
  refine Zm ?_
  refine Zspb 16 hS (fun h16 hS => ?_) (fun h16 hS => ?_)
  ·
   refine VL.runs 3 [(19, some true)] (by kernel_rfl) ?_
   refine Zu (q_nilCheck rfl) ?_
   refine Zu (q_field gfa161_1 rfl) ?_
   refine Zv (vc := [.bool true]) (cs' := [ptr r_0_dec_b 0, .bool true]) rfl gsz4 ?_
   refine VL.mt true [0, 1, 4] (fun _ _ h => h) hS rfl
  refine Zg ?_
  refine Zh (q_lss rfl rfl) ?_
  refine Zf ?_
  refine Zu (q_nilCheck rfl) ?_
  refine Zu (q_field gfa161_1 rfl) ?_
  refine Zv (vc := [.bool (decide (q10_1_0 < 0))]) (cs' := [ptr r_0_dec_b 0, .bool (decide (q10_1_0 < 0))]) rfl gsz4 ?_
  refine VL.mt (decide (q10_1_0 < 0)) [0, 1, 4] (fun _ _ h => h) hS rfl
 clear hS
 rintro c1_2 hS
 refine Zq (Zr ?_)
 refine Zy ?_
 refine Zb ?_
 refine VC.iter (S := Int × Sv UInt8 × Int × Er × Bool × Sv FilesFile × Sv IndexEntry × Sv NamesRef × Str × Int × Str × Int × Str × Sv TodoStep × Sv TodoStep × Int × Str × Str × Int × Sv IndexEntry × Sv FilesFile × Sv ShelfShelf × Sv StateCommit × Sv Str × Sv Str × Int) (fun sg => (sg.1, sg.2.1.l, sg.2.2.1, sg.2.2.2.1.pl, sg.2.2.2.2.1, sg.2.2.2.2.2.1.l, sg.2.2.2.2.2.2.1.l, sg.2.2.2.2.2.2.2.1.l, sg.2.2.2.2.2.2.2.2.1, sg.2.2.2.2.2.2.2.2.2.1, sg.2.2.2.2.2.2.2.2.2.2.1, sg.2.2.2.2.2.2.2.2.2.2.2.1, sg.2.2.2.2.2.2.2.2.2.2.2.2.1, sg.2.2.2.2.2.2.2.2.2.2.2.2.2.1.l, sg.2.2.2.2.2.2.2.2.2.2.2.2.2.2.1.l, sg.2.2.2.2.2.2.2.2.2.2.2.2.2.2.2.1, sg.2.2.2.2.2.2.2.2.2.2.2.2.2.2.2.2.1, sg.2.2.2.2.2.2.2.2.2.2.2.2.2.2.2.2.2.1, sg.2.2.2.2.2.2.2.2.2.2.2.2.2.2.2.2.2.2.1, sg.2.2.2.2.2.2.2.2.2.2.2.2.2.2.2.2.2.2.2.1.l, sg.2.2.2.2.2.2.2.2.2.2.2.2.2.2.2.2.2.2.2.2.1.l, (sg.2.2.2.2.2.2.2.2.2.2.2.2.2.2.2.2.2.2.2.2.2.1.l.map ShelfShelf.pl), (sg.2.2.2.2.2.2.2.2.2.2.2.2.2.2.2.2.2.2.2.2.2.2.1.l.map StateCommit.pl), sg.2.2.2.2.2.2.2.2.2.2.2.2.2.2.2.2.2.2.2.2.2.2.2.1.l, sg.2.2.2.2.2.2.2.2.2.2.2.2.2.2.2.2.2.2.2.2.2.2.2.2.1.l, sg.2.2.2.2.2.2.2.2.2.2.2.2.2.2.2.2.2.2.2.2.2.2.2.2.2)) (fun sg => [(0, ptr r_0_b 0), (1, .func (.func 161) #[] #[ptr one_1_0_b 0, ptr one_1_1_b 0]), (4, i64 q10_1_0), (5, i64 sg.1)]) (fun sg => (sg.2.1.ok.and (sg.2.2.2.1.ok.and (sg.2.2.2.2.2.1.ok.and (sg.2.2.2.2.2.2.1.ok.and (sg.2.2.2.2.2.2.2.1.ok.and (sg.2.2.2.2.2.2.2.2.2.2.2.2.2.1.ok.and (sg.2.2.2.2.2.2.2.2.2.2.2.2.2.2.1.ok.and (sg.2.2.2.2.2.2.2.2.2.2.2.2.2.2.2.2.2.2.2.1.ok.and (sg.2.2.2.2.2.2.2.2.2.2.2.2.2.2.2.2.2.2.2.2.1.ok.and (sg.2.2.2.2.2.2.2.2.2.2.2.2.2.2.2.2.2.2.2.2.2.1.ok.and ((MAl sg.2.2.2.2.2.2.2.2.2.2.2.2.2.2.2.2.2.2.2.2.2.2.1.l).and (sg.2.2.2.2.2.2.2.2.2.2.2.2.2.2.2.2.2.2.2.2.2.2.2.1.ok.and sg.2.2.2.2.2.2.2.2.2.2.2.2.2.2.2.2.2.2.2.2.2.2.2.2.1.ok))))))))))))) (fun sg => Ow.star (Blk r_0_dec_b [sg.2.1.val, i64 sg.2.2.1, sg.2.2.2.1.val] 233) (Ow.star (Blk r_0_b [ptr r_0_dec_b 0, .bool sg.2.2.2.2.1] 161) (Ow.star (Blk one_1_0_b [sg.2.2.2.2.2.1.val, sg.2.2.2.2.2.2.1.val, sg.2.2.2.2.2.2.2.1.val, str sg.2.2.2.2.2.2.2.2.1, i64 sg.2.2.2.2.2.2.2.2.2.1, str sg.2.2.2.2.2.2.2.2.2.2.1, i64 sg.2.2.2.2.2.2.2.2.2.2.2.1, str sg.2.2.2.2.2.2.2.2.2.2.2.2.1, sg.2.2.2.2.2.2.2.2.2.2.2.2.2.1.val, sg.2.2.2.2.2.2.2.2.2.2.2.2.2.2.1.val, i64 sg.2.2.2.2.2.2.2.2.2.2.2.2.2.2.2.1, str sg.2.2.2.2.2.2.2.2.2.2.2.2.2.2.2.2.1, str sg.2.2.2.2.2.2.2.2.2.2.2.2.2.2.2.2.2.1, i64 sg.2.2.2.2.2.2.2.2.2.2.2.2.2.2.2.2.2.2.1, sg.2.2.2.2.2.2.2.2.2.2.2.2.2.2.2.2.2.2.2.1.val, sg.2.2.2.2.2.2.2.2.2.2.2.2.2.2.2.2.2.2.2.2.1.val, sg.2.2.2.2.2.2.2.2.2.2.2.2.2.2.2.2.2.2.2.2.2.1.val, sg.2.2.2.2.2.2.2.2.2.2.2.2.2.2.2.2.2.2.2.2.2.2.1.val, sg.2.2.2.2.2.2.2.2.2.2.2.2.2.2.2.2.2.2.2.2.2.2.2.1.val, sg.2.2.2.2.2.2.2.2.2.2.2.2.2.2.2.2.2.2.2.2.2.2.2.2.1.val, i64 sg.2.2.2.2.2.2.2.2.2.2.2.2.2.2.2.2.2.2.2.2.2.2.2.2.2] 93) (Ow.star (Blk one_1_1_b [ptr r_0_b 0] 159) (Ow.star (Sv.own sg.2.2.2.2.2.2.2.2.2.2.2.2.2.2.2.2.2.2.2.2.2.2.1 110) (Ow.emp)))))) (0, q10_1_1.b, q10_1_1.at_, q10_1_1.err, c1_2, one_1_0.now_work, one_1_0.now_index, one_1_0.now_refs, one_1_0.now_head_branch, one_1_0.now_head_commit, one_1_0.now_seq_kind, one_1_0.now_seq_other, one_1_0.now_seq_text, one_1_0.now_seq_doing, one_1_0.now_seq_todo, one_1_0.now_seq_made, one_1_0.now_seq_branch, one_1_0.now_seq_head_branch, one_1_0.now_seq_head_commit, one_1_0.now_seq_index, one_1_0.now_seq_work, one_1_0.now_stash, one_1_0.commits, one_1_0.log_back, one_1_0.log_forth, one_1_0.time) [0, 1, 4, 5] hS rfl ?_
 clear hS
 rintro ⟨i5_4, c0_5, c1_6, c2_7, c1_8, c0_9, c1_10, c2_11, c3_12, c4_13, c5_14, c6_15, c7_16, c8_17, c9_18, c10_19, c11_20, c12_21, c13_22, c14_23, c15_24, c16_25, c17_26, c18_27, c19_28, c20_29⟩ m1 y1 hS hK1
 refine Zq (Zq (Zr ?_))
 refine Zy ?_
 refine Zu (q_lss rfl rfl) ?_
 refine Zm ?_
 refine Zsp 25 hS (fun h25 hS => ?_) (fun h25 hS => ?_)
 ·
  refine Zg ?_
  refine Zh (q_nilCheck rfl) ?_
  refine Zh (q_field gfa161_0 rfl) ?_
  refine Zh (q_fe gone129 rfl rfl) ?_
  refine VL.guard rfl rfl ?_
  obtain ⟨y30_30, ey30_30, hS⟩ := bd_s hS
  refine VL.callO (codec_Dec_Err_ct r_0_dec_b (⟨c0_5, c1_6, c2_7⟩ : CodecDec) ey30_30) rfl (by decide) ?_
  rintro q30_30_0 rfl
  try dsimp only
  refine Zh (q_ereq Tryz.underlying26 rfl) ?_
  refine Zy ?_
  refine VC.keep (ρ' := [(0, ptr r_0_b 0), (1, .func (.func 161) #[] #[ptr one_1_0_b 0, ptr one_1_1_b 0]), (4, i64 q10_1_0), (5, i64 i5_4), (32, .bool (decide (q30_30_0.pl.isNil = true)))]) [0, 1, 4, 5, 32] rfl ?_
  refine Zc hS (fun h32 hS => ?_) (fun h32 hS => ?_)
  ·
   refine Zk ?_
   refine Zq (Zb (Zr ?_))
   refine Zm ?_
   obtain ⟨y36_31, ey36_31, hS⟩ := bd_s hS
   refine VL.callOV (vs := []) (caps := [ptr one_1_0_b 0, ptr one_1_1_b 0]) (state_reader_state_1_ct one_1_0_b (⟨c0_9, c1_10, c2_11, c3_12, c4_13, c5_14, c6_15, c7_16, c8_17, c9_18, c10_19, c11_20, c12_21, c13_22, c14_23, c15_24, c16_25, c17_26, c18_27, c19_28, c20_29⟩ : StateState) one_1_1_b r_0_b (⟨c1_8⟩ : StateReader) r_0_dec_b (⟨c0_5, c1_6, c2_7⟩ : CodecDec) ey36_31) rfl rfl (by decide) ?_
   rintro ⟨q36_31_0, q36_31_1, q36_31_2⟩ rfl
   try dsimp only
   refine Zl ?_
   refine Zr ?_
   refine Zm ?_
   obtain ⟨b34, hS⟩ := gd_s hS
   refine Zu (q_add rfl rfl b34) ?_
   refine Za ?_
   refine VL.rnd ((i5_4 + 1), q36_31_1.b, q36_31_1.at_, q36_31_1.err, q36_31_2.bad, q36_31_0.now_work, q36_31_0.now_index, q36_31_0.now_refs, q36_31_0.now_head_branch, q36_31_0.now_head_commit, q36_31_0.now_seq_kind, q36_31_0.now_seq_other, q36_31_0.now_seq_text, q36_31_0.now_seq_doing, q36_31_0.now_seq_todo, q36_31_0.now_seq_made, q36_31_0.now_seq_branch, q36_31_0.now_seq_head_branch, q36_31_0.now_seq_head_commit, q36_31_0.now_seq_index, q36_31_0.now_seq_work, q36_31_0.now_stash, q36_31_0.commits, q36_31_0.log_back, q36_31_0.log_forth, q36_31_0.time) [0, 1, 4, 5] (fun _ _ h => h) (go2 hS hK1) rfl
  replace hS := up2 hS hK1
  cases hS
  exact VC.exit (fin0 (.inl rfl) rfl (⟨c0_5, c1_6, c2_7⟩, ⟨c1_8⟩, ⟨c0_9, c1_10, c2_11, c3_12, c4_13, c5_14, c6_15, c7_16, c8_17, c9_18, c10_19, c11_20, c12_21, c13_22, c14_23, c15_24, c16_25, c17_26, c18_27, c19_28, c20_29⟩) rfl rfl (by (try dsimp only); exact InM.out) (by (try dsimp only); exact EntO.out))
 refine VL.runs 7 [(32, some false)] (by kernel_rfl) ?_
 refine Zl ?_
 refine VC.cond_f rfl ?_
 replace hS := up2 hS hK1
 cases hS
 exact VC.exit (fin0 (.inl rfl) rfl (⟨c0_5, c1_6, c2_7⟩, ⟨c1_8⟩, ⟨c0_9, c1_10, c2_11, c3_12, c4_13, c5_14, c6_15, c7_16, c8_17, c9_18, c10_19, c11_20, c12_21, c13_22, c14_23, c15_24, c16_25, c17_26, c18_27, c19_28, c20_29⟩) rfl rfl (by (try dsimp only); exact InM.out) (by (try dsimp only); exact EntO.out))
theorem slices_Clip_state_Commit_state_Commit_ct (s_0 : Sv StateCommit) {r : List StateCommitP} (hS : Sh.slices_Clip_state_Commit_state_Commit (s_0.l.map StateCommit.pl) = some r) :
 Ct Tryz.prog 163 [s_0.val] s_0.ok (Ow.emp) (X := Sv StateCommit) (fun x => x.val) (fun x => r = (x.l.map StateCommit.pl)) (fun x => x.ok) (fun x => Ow.emp) := by
 refine Zo Tryz.func163 Tryz.ntmps163 fun c => ?_
 unfold Sh.slices_Clip_state_Commit_state_Commit at hS
 refine Zq (Zr ?_)
 refine Zy ?_
 refine Zq (Zr ?_)
 refine Zy ?_
 refine Zu (q_lnm StateCommit.pl (s := s_0) Tryz.underlying68 rfl) ?_
 refine Zm ?_
 refine Zu (q_lnm StateCommit.pl (s := s_0) Tryz.underlying68 rfl) ?_
 obtain ⟨b8, hS⟩ := gd_s hS
 refine VL.stom Tryz.underlying68 gsz110 rfl rfl rfl b8.1 (len_m b8.2) (by decide) fun s8_1 hs8_1 => ?_
 replace hS := lt_to ((congrArg (List.map StateCommit.pl) hs8_1).trans List.map_take) hS
 refine Zy ?_
 cases hS
 exact VC.ret (fin1 (.inr rfl) rfl rfl s8_1 rfl rfl (by (try dsimp only); exact InM.out) (fun _ _ => trivial))
theorem state_reader_texts_1_ct (a_0_b : Nat) (a_0 : Sv Str) (a_1_b : Nat) (a_1__b : Nat) (a_1_ : StateReader) (a_1__dec_b : Nat) (a_1__dec : CodecDec) {r : List Str × CodecDecP} (hS : Sh.state_reader_texts_1 a_0.l a_1_ a_1__dec.pl = some r) :
 Ct Tryz.prog 212 [ptr a_0_b 0, ptr a_1_b 0] (a_1__dec.b.ok.and a_1__dec.err.ok) (Ow.star (Sv.own a_0 9) (Ow.star (Blk a_0_b [a_0.val] 89) (Ow.star (Blk a_1__dec_b [a_1__dec.b.val, i64 a_1__dec.at_, a_1__dec.err.val] 233) (Ow.star (Blk a_1__b [ptr a_1__dec_b 0, .bool a_1_.bad] 161) (Blk a_1_b [ptr a_1__b 0] 159))))) (X := Sv Str × CodecDec) (fun x => .tuple #[]) (fun x => r = (x.1.l, x.2.pl)) (fun x => (x.2.b.ok.and x.2.err.ok)) (fun x => Ow.star (Blk a_0_b [x.1.val] 89) (Ow.star (Sv.own x.1 9) (Ow.star (Blk a_1__dec_b [x.2.b.val, i64 x.2.at_, x.2.err.val] 233) (Ow.star (Blk a_1__b [ptr a_1__dec_b 0, .bool a_1_.bad] 161) (Blk a_1_b [ptr a_1__b 0] 159))))) := by
 refine Zo Tryz.func212 Tryz.ntmps212 fun c => ?_
 unfold Sh.state_reader_texts_1 at hS
 refine VC.draw [(0, true), (1, true), (2, true), (3, true), (4, true), (5, false), (6, false), (7, false), (8, false)] mixed (by kernel_rfl) (by kernel_rfl) (by kernel_rfl) ?_
 refine Zw rfl (q_fe gone89 rfl rfl) ?_
 refine Zw rfl (q_fe gone159 rfl rfl) ?_
 refine Zw rfl (q_nilCheck rfl) ?_
 refine Zw rfl (q_field gfa161_0 rfl) ?_
 refine Zw rfl (q_fe gone129 rfl rfl) ?_
 refine VD.one rfl ?_
 obtain ⟨y7_1, ey7_1, hS⟩ := bd_s hS
 refine VL.callO (codec_Dec_Text_ct a_1__dec_b a_1__dec ey7_1) rfl (by decide) ?_
 rintro ⟨q7_1_0, q7_1_1⟩ rfl
 try dsimp only
 refine VL.back (D' := [(0, a_0.val)]) (by kernel_rfl) (Pend.cons rfl (q_fe gone89 rfl rfl) (Pend.nil)) ?_
 refine VD.one rfl ?_
 refine VL.lit (α := Str) (xs := [.tmp 7]) (vs := [str q7_1_0]) [q7_1_0] Tryz.underlying89 glit9 (by decide) rfl rfl rfl rfl (by decide) (fun _ _ _ _ => trivial) (by decide) (fun s8_2 hs8_2 => ?_) (by decide)
 replace hS := lt_to hs8_2 hS
 refine VL.back (D' := [(0, a_0.val)]) (by kernel_rfl) (Pend.cons rfl (q_fe gone89 rfl rfl) (Pend.nil)) ?_
 refine VD.one rfl ?_
 obtain ⟨b9, hS⟩ := gd_s hS
 refine VL.app (s := a_0) (r := s8_2) Tryz.underlying89 gapp9 (by decide) rfl Fo.out (ap1 b9) (ap2 b9 (by decide)) (by decide) (fun s9_4 hs9_4 => ?_)
 replace hS := lt_to hs9_4 hS
 refine VL.back (D' := []) (by kernel_rfl) (Pend.nil) ?_
 refine VD.one rfl ?_
 refine Zv (vc := [s9_4.val]) (cs' := [s9_4.val]) rfl gsz89 ?_
 refine VL.back (D' := []) (by kernel_rfl) (Pend.nil) ?_
 cases hS
 exact VD.nil (fin0 (.inl rfl) rfl (s9_4, ⟨q7_1_1.b, q7_1_1.at_, q7_1_1.err⟩) rfl rfl (by (try dsimp only); exact InM.out) (by (try dsimp only); exact EntO.out))
theorem state_reader_many_v8_ct (r_0_b : Nat) (r_0 : StateReader) (r_0_dec_b : Nat) (r_0_dec : CodecDec) (one_1_0_b : Nat) (one_1_0 : Sv Str) (one_1_1_b : Nat) {r : CodecDecP × StateReader × List Str} (hS : Sh.state_reader_many_v8 r_0 r_0_dec.pl one_1_0.l = some r) :
 Ct Tryz.prog 142 [ptr r_0_b 0, .func (.func 212) #[] #[ptr one_1_0_b 0, ptr one_1_1_b 0]] (r_0_dec.b.ok.and r_0_dec.err.ok) (Ow.star (Blk r_0_dec_b [r_0_dec.b.val, i64 r_0_dec.at_, r_0_dec.err.val] 233) (Ow.star (Blk r_0_b [ptr r_0_dec_b 0, .bool r_0.bad] 161) (Ow.star (Sv.own one_1_0 9) (Ow.star (Blk one_1_0_b [one_1_0.val] 89) (Blk one_1_1_b [ptr r_0_b 0] 159))))) (X := CodecDec × StateReader × Sv Str) (fun x => .tuple #[]) (fun x => r = (x.1.pl, x.2.1, x.2.2.l)) (fun x => (x.1.b.ok.and x.1.err.ok)) (fun x => Ow.star (Blk r_0_dec_b [x.1.b.val, i64 x.1.at_, x.1.err.val] 233) (Ow.star (Blk r_0_b [ptr r_0_dec_b 0, .bool x.2.1.bad] 161) (Ow.star (Blk one_1_0_b [x.2.2.val] 89) (Ow.star (Sv.own x.2.2 9) (Blk one_1_1_b [ptr r_0_b 0] 159))))) := by
 refine Zo Tryz.func142 Tryz.ntmps142 fun c => ?_
 unfold Sh.state_reader_many_v8 at hS
 refine Zq (Zr ?_)
 refine Zm ?_
 refine Zu (q_nilCheck rfl) ?_
 refine Zu (q_field gfa161_0 rfl) ?_
 refine Zu (q_fe gone129 rfl rfl) ?_
 obtain ⟨y10_1, ey10_1, hS⟩ := bd_s hS
 refine VL.callO (codec_Dec_Int_ct r_0_dec_b r_0_dec ey10_1) rfl (by decide) ?_
 rintro ⟨q10_1_0, q10_1_1⟩ rfl
 try dsimp only
 refine Zy ?_
 refine VC.cutJ (S := Bool) (fun (c1_2 : Bool) => c1_2) (fun (c1_2 : Bool) => [(0, ptr r_0_b 0), (1, .func (.func 212) #[] #[ptr one_1_0_b 0, ptr one_1_1_b 0]), (4, i64 q10_1_0)]) (fun (c1_2 : Bool) => Mo.tt) (fun (c1_2 : Bool) => Ow.star (Blk r_0_dec_b [q10_1_1.b.val, i64 q10_1_1.at_, q10_1_1.err.val] 233) (Ow.star (Blk r_0_b [ptr r_0_dec_b 0, .bool c1_2] 161) (Ow.star (Blk one_1_0_b [one_1_0.val] 89) (Ow.star (Blk one_1_1_b [ptr r_0_b 0] 159) (Ow.star (Sv.own one_1_0 9) (Ow.emp)))))) hS ?_ ?_
 ·
  clear hS
  intro k3 hS
  refine Zr ?_
  refine Zy ?_
  refine Zu (q_nilCheck rfl) ?_
  refine Zu (q_field gfa161_1 rfl) ?_
  refine Zu (q_fe gone4 rfl rfl) ?_
  refine Zm ?_
  refine Zspb 16 hS (fun h16 hS => ?_) (fun h16 hS => ?_)
  ·
   refine VL.runs 3 [(19, some true)] (by kernel_rfl) ?_
   refine Zu (q_nilCheck rfl) ?_
   refine Zu (q_field gfa161_1 rfl) ?_
   refine Zv (vc := [.bool true]) (cs' := [ptr r_0_dec_b 0, .bool true]) rfl gsz4 ?_
   refine VL.mt true [0, 1, 4] (fun _ _ h => h) hS rfl
  refine Zg ?_
  refine Zh (q_lss rfl rfl) ?_
  refine Zf ?_
  refine Zu (q_nilCheck rfl) ?_
  refine Zu (q_field gfa161_1 rfl) ?_
  refine Zv (vc := [.bool (decide (q10_1_0 < 0))]) (cs' := [ptr r_0_dec_b 0, .bool (decide (q10_1_0 < 0))]) rfl gsz4 ?_
  refine VL.mt (decide (q10_1_0 < 0)) [0, 1, 4] (fun _ _ h => h) hS rfl
 clear hS
 rintro c1_2 hS
 refine Zq (Zr ?_)
 refine Zy ?_
 refine Zb ?_
 refine VC.iter (S := Int × Sv UInt8 × Int × Er × Sv Str) (fun sg => (sg.1, sg.2.1.l, sg.2.2.1, sg.2.2.2.1.pl, sg.2.2.2.2.l)) (fun sg => [(0, ptr r_0_b 0), (1, .func (.func 212) #[] #[ptr one_1_0_b 0, ptr one_1_1_b 0]), (4, i64 q10_1_0), (5, i64 sg.1)]) (fun sg => (sg.2.1.ok.and sg.2.2.2.1.ok)) (fun sg => Ow.star (Blk r_0_dec_b [sg.2.1.val, i64 sg.2.2.1, sg.2.2.2.1.val] 233) (Ow.star (Blk r_0_b [ptr r_0_dec_b 0, .bool c1_2] 161) (Ow.star (Blk one_1_0_b [sg.2.2.2.2.val] 89) (Ow.star (Blk one_1_1_b [ptr r_0_b 0] 159) (Ow.star (Sv.own sg.2.2.2.2 9) (Ow.emp)))))) (0, q10_1_1.b, q10_1_1.at_, q10_1_1.err, one_1_0) [0, 1, 4, 5] hS rfl ?_
 clear hS
 rintro ⟨i5_4, c0_5, c1_6, c2_7, c0_8⟩ m1 y1 hS hK1
 refine Zq (Zq (Zr ?_))
 refine Zy ?_
 refine Zu (q_lss rfl rfl) ?_
 refine Zm ?_
 refine Zsp 25 hS (fun h25 hS => ?_) (fun h25 hS => ?_)
 ·
  refine Zg ?_
  refine Zh (q_nilCheck rfl) ?_
  refine Zh (q_field gfa161_0 rfl) ?_
  refine Zh (q_fe gone129 rfl rfl) ?_
  refine VL.guard rfl rfl ?_
  obtain ⟨y30_9, ey30_9, hS⟩ := bd_s hS
  refine VL.callO (codec_Dec_Err_ct r_0_dec_b (⟨c0_5, c1_6, c2_7⟩ : CodecDec) ey30_9) rfl (by decide) ?_
  rintro q30_9_0 rfl
  try dsimp only
  refine Zh (q_ereq Tryz.underlying26 rfl) ?_
  refine Zy ?_
  refine VC.keep (ρ' := [(0, ptr r_0_b 0), (1, .func (.func 212) #[] #[ptr one_1_0_b 0, ptr one_1_1_b 0]), (4, i64 q10_1_0), (5, i64 i5_4), (32, .bool (decide (q30_9_0.pl.isNil = true)))]) [0, 1, 4, 5, 32] rfl ?_
  refine Zc hS (fun h32 hS => ?_) (fun h32 hS => ?_)
  ·
   refine Zk ?_
   refine Zq (Zb (Zr ?_))
   refine Zm ?_
   obtain ⟨y36_10, ey36_10, hS⟩ := bd_s hS
   refine VL.callOV (vs := []) (caps := [ptr one_1_0_b 0, ptr one_1_1_b 0]) (state_reader_texts_1_ct one_1_0_b c0_8 one_1_1_b r_0_b (⟨c1_2⟩ : StateReader) r_0_dec_b (⟨c0_5, c1_6, c2_7⟩ : CodecDec) ey36_10) rfl rfl (by decide) ?_
   rintro ⟨q36_10_0, q36_10_1⟩ rfl
   try dsimp only
   refine Zl ?_
   refine Zr ?_
   refine Zm ?_
   obtain ⟨b34, hS⟩ := gd_s hS
   refine Zu (q_add rfl rfl b34) ?_
   refine Za ?_
   refine VL.rnd ((i5_4 + 1), q36_10_1.b, q36_10_1.at_, q36_10_1.err, q36_10_0) [0, 1, 4, 5] (fun _ _ h => h) (go2 hS hK1) rfl
  replace hS := up2 hS hK1
  cases hS
  exact VC.exit (fin0 (.inl rfl) rfl (⟨c0_5, c1_6, c2_7⟩, ⟨c1_2⟩, c0_8) rfl rfl (by (try dsimp only); exact InM.out) (by (try dsimp only); exact EntO.out))
 refine VL.runs 7 [(32, some false)] (by kernel_rfl) ?_
 refine Zl ?_
 refine VC.cond_f rfl ?_
 replace hS := up2 hS hK1
 cases hS
 exact VC.exit (fin0 (.inl rfl) rfl (⟨c0_5, c1_6, c2_7⟩, ⟨c1_2⟩, c0_8) rfl rfl (by (try dsimp only); exact InM.out) (by (try dsimp only); exact EntO.out))
theorem slices_Clip_string_string_ct (s_0 : Sv Str) {r : List Str} (hS : Sh.slices_Clip_string_string s_0.l = some r) :
 Ct Tryz.prog 213 [s_0.val] s_0.ok (Ow.emp) (X := Sv Str) (fun x => x.val) (fun x => r = x.l) (fun x => x.ok) (fun x => Ow.emp) := by
 refine Zo Tryz.func213 Tryz.ntmps213 fun c => ?_
 unfold Sh.slices_Clip_string_string at hS
 refine Zq (Zr ?_)
 refine Zy ?_
 refine Zq (Zr ?_)
 refine Zy ?_
 refine Zu (q_ln (s := s_0) Tryz.underlying89 rfl) ?_
 refine Zm ?_
 refine Zu (q_ln (s := s_0) Tryz.underlying89 rfl) ?_
 obtain ⟨b8, hS⟩ := gd_s hS
 refine VL.stom Tryz.underlying89 gsz9 rfl rfl rfl b8.1 (b8.2) (by decide) fun s8_1 hs8_1 => ?_
 replace hS := lt_to hs8_1 hS
 refine Zy ?_
 cases hS
 exact VC.ret (fin1 (.inr rfl) rfl rfl s8_1 rfl rfl (by (try dsimp only); exact InM.out) (fun _ _ => trivial))
theorem state_reader_texts_ct (r_0_b : Nat) (r_0 : StateReader) (r_0_dec_b : Nat) (r_0_dec : CodecDec) {r : List Str × CodecDecP × StateReader} (hS : Sh.state_reader_texts r_0 r_0_dec.pl = some r) :
 Ct Tryz.prog 164 [ptr r_0_b 0] (r_0_dec.b.ok.and r_0_dec.err.ok) (Ow.star (Blk r_0_dec_b [r_0_dec.b.val, i64 r_0_dec.at_, r_0_dec.err.val] 233) (Blk r_0_b [ptr r_0_dec_b 0, .bool r_0.bad] 161)) (X := Sv Str × CodecDec × StateReader) (fun x => x.1.val) (fun x => r = (x.1.l, x.2.1.pl, x.2.2)) (fun x => (x.1.ok.and (x.2.1.b.ok.and x.2.1.err.ok))) (fun x => Ow.star (Blk r_0_dec_b [x.2.1.b.val, i64 x.2.1.at_, x.2.1.err.val] 233) (Blk r_0_b [ptr r_0_dec_b 0, .bool x.2.2.bad] 161)) := by
 refine Zo Tryz.func164 Tryz.ntmps164 fun c => ?_
 unfold Sh.state_reader_texts at hS
 refine Zq (Zr ?_)
 refine VL.box (cs := [ptr r_0_b 0]) rfl rfl (by decide) fun b1_1 => ?_
 refine Zy ?_
 refine Zq (Zr ?_)
 refine VL.alloc (cs := [.slice none 0 0]) (by kernel_rfl) (by decide) fun b3_2 => ?_
 refine Zl ?_
 refine Zq (Zr ?_)
 refine Zu (q_fe gone159 rfl rfl) ?_
 refine Zu (q_mkfn rfl) ?_
 refine VL.nilO (⟨none, 0, []⟩ : Sv Str) 9 ⟨rfl, rfl⟩ ?_
 refine VL.reB b3_2 (cs' := [(⟨none, 0, []⟩ : Sv Str).val]) rfl ?_
 obtain ⟨y6_3, ey6_3, hS⟩ := bd_s hS
 refine VL.callO (state_reader_many_v8_ct r_0_b r_0 r_0_dec_b r_0_dec b3_2 (⟨none, 0, []⟩ : Sv Str) b1_1 ey6_3) rfl (by decide) ?_
 rintro ⟨q6_3_0, q6_3_1, q6_3_2⟩ rfl
 try dsimp only
 refine Zl ?_
 refine Zq (Zr ?_)
 refine Zu (q_fe gone89 rfl rfl) ?_
 refine VL.shut q6_3_2 9 (fun _ _ _ _ => trivial) ?_
 obtain ⟨y8_4, ey8_4, hS⟩ := bd_s hS
 refine VL.callF (slices_Clip_string_string_ct q6_3_2 ey8_4) rfl (by decide) ?_
 rintro q8_4_0 rfl
 try dsimp only
 refine Zy ?_
 cases hS
 exact VC.ret (fin1 (.inr rfl) rfl rfl (q8_4_0, ⟨q6_3_0.b, q6_3_0.at_, q6_3_0.err⟩, ⟨q6_3_1.bad⟩) rfl rfl (by (try dsimp only); exact InM.out) (by (try dsimp only); exact EntO.out))
theorem state_reader_state_ct (r_0_b : Nat) (r_0 : StateReader) (r_0_dec_b : Nat) (r_0_dec : CodecDec) {r : StateStateP × CodecDecP × StateReader} (hS : Sh.state_reader_state r_0 r_0_dec.pl = some r) :
 Ct Tryz.prog 80 [ptr r_0_b 0] (r_0_dec.b.ok.and r_0_dec.err.ok) (Ow.star (Blk r_0_dec_b [r_0_dec.b.val, i64 r_0_dec.at_, r_0_dec.err.val] 233) (Blk r_0_b [ptr r_0_dec_b 0, .bool r_0.bad] 161)) (X := StateState × CodecDec × StateReader) (fun x => .agg (Dat.enc x.1).toArray) (fun x => r = (x.1.pl, x.2.1.pl, x.2.2)) (fun x => (x.1.m.and (x.2.1.b.ok.and x.2.1.err.ok))) (fun x => Ow.star (Blk r_0_dec_b [x.2.1.b.val, i64 x.2.1.at_, x.2.1.err.val] 233) (Blk r_0_b [ptr r_0_dec_b 0, .bool x.2.2.bad] 161)) := by
 refine Zo Tryz.func80 Tryz.ntmps80 fun c => ?_
 unfold Sh.state_reader_state at hS
 refine Zq (Zr ?_)
 refine VL.box (cs := [ptr r_0_b 0]) rfl rfl (by decide) fun b1_1 => ?_
 refine VL.alloc (cs := [.slice none 0 0, .slice none 0 0, .slice none 0 0, str [], i64 0, str [], i64 0, str [], .slice none 0 0, .slice none 0 0, i64 0, str [], str [], i64 0, .slice none 0 0, .slice none 0 0, .slice none 0 0, .slice none 0 0, .slice none 0 0, .slice none 0 0, i64 0]) (by kernel_rfl) (by decide) fun b2_2 => ?_
 refine Zl ?_
 refine Zq (Zr ?_)
 refine Zu (q_fe gone159 rfl rfl) ?_
 obtain ⟨y5_3, ey5_3, hS⟩ := bd_s hS
 refine VL.callO (state_reader_now_ct r_0_b r_0 r_0_dec_b r_0_dec ey5_3) rfl (by decide) ?_
 rintro ⟨q5_3_0, q5_3_1, q5_3_2⟩ rfl
 try dsimp only
 refine Zu (q_build (vs := [(0, .agg #[q5_3_0.work.val, q5_3_0.index.val, q5_3_0.refs.val, str q5_3_0.head_branch, i64 q5_3_0.head_commit, str q5_3_0.seq_kind, i64 q5_3_0.seq_other, str q5_3_0.seq_text, q5_3_0.seq_doing.val, q5_3_0.seq_todo.val, i64 q5_3_0.seq_made, str q5_3_0.seq_branch, str q5_3_0.seq_head_branch, i64 q5_3_0.seq_head_commit, q5_3_0.seq_index.val, q5_3_0.seq_work.val, q5_3_0.stash.val])]) (cs := #[q5_3_0.work.val, q5_3_0.index.val, q5_3_0.refs.val, str q5_3_0.head_branch, i64 q5_3_0.head_commit, str q5_3_0.seq_kind, i64 q5_3_0.seq_other, str q5_3_0.seq_text, q5_3_0.seq_doing.val, q5_3_0.seq_todo.val, i64 q5_3_0.seq_made, str q5_3_0.seq_branch, str q5_3_0.seq_head_branch, i64 q5_3_0.seq_head_commit, q5_3_0.seq_index.val, q5_3_0.seq_work.val, q5_3_0.stash.val, .slice none 0 0, .slice none 0 0, .slice none 0 0, i64 0]) rfl (by kernel_rfl)) ?_
 refine VL.alloc (cs := [.slice none 0 0, .slice none 0 0, .slice none 0 0, str [], i64 0, str [], i64 0, str [], .slice none 0 0, .slice none 0 0, i64 0, str [], str [], i64 0, .slice none 0 0, .slice none 0 0, .slice none 0 0, .slice none 0 0, .slice none 0 0, .slice none 0 0, i64 0]) (by kernel_rfl) (by decide) fun b3_4 => ?_
 refine Zv (vc := [q5_3_0.work.val, q5_3_0.index.val, q5_3_0.refs.val, str q5_3_0.head_branch, i64 q5_3_0.head_commit, str q5_3_0.seq_kind, i64 q5_3_0.seq_other, str q5_3_0.seq_text, q5_3_0.seq_doing.val, q5_3_0.seq_todo.val, i64 q5_3_0.seq_made, str q5_3_0.seq_branch, str q5_3_0.seq_head_branch, i64 q5_3_0.seq_head_commit, q5_3_0.seq_index.val, q5_3_0.seq_work.val, q5_3_0.stash.val, .slice none 0 0, .slice none 0 0, .slice none 0 0, i64 0]) (cs' := [q5_3_0.work.val, q5_3_0.index.val, q5_3_0.refs.val, str q5_3_0.head_branch, i64 q5_3_0.head_commit, str q5_3_0.seq_kind, i64 q5_3_0.seq_other, str q5_3_0.seq_text, q5_3_0.seq_doing.val, q5_3_0.seq_todo.val, i64 q5_3_0.seq_made, str q5_3_0.seq_branch, str q5_3_0.seq_head_branch, i64 q5_3_0.seq_head_commit, q5_3_0.seq_index.val, q5_3_0.seq_work.val, q5_3_0.stash.val, .slice none 0 0, .slice none 0 0, .slice none 0 0, i64 0]) rfl gsz93 ?_
 refine Zl ?_
 refine Zq (Zr ?_)
 refine Zu (q_fe gone159 rfl rfl) ?_
 refine Zu (q_mkfn rfl) ?_
 refine VL.nilO (⟨none, 0, []⟩ : Sv StateCommit) 110 ⟨rfl, rfl⟩ ?_
 refine VL.maNil (s := (⟨none, 0, []⟩ : Sv StateCommit)) rfl ?_
 refine VL.reB b3_4 (cs' := [q5_3_0.work.val, q5_3_0.index.val, q5_3_0.refs.val, str q5_3_0.head_branch, i64 q5_3_0.head_commit, str q5_3_0.seq_kind, i64 q5_3_0.seq_other, str q5_3_0.seq_text, q5_3_0.seq_doing.val, q5_3_0.seq_todo.val, i64 q5_3_0.seq_made, str q5_3_0.seq_branch, str q5_3_0.seq_head_branch, i64 q5_3_0.seq_head_commit, q5_3_0.seq_index.val, q5_3_0.seq_work.val, q5_3_0.stash.val, (⟨none, 0, []⟩ : Sv StateCommit).val, (⟨none, 0, []⟩ : Sv Str).val, (⟨none, 0, []⟩ : Sv Str).val, i64 0]) rfl ?_
 obtain ⟨y9_5, ey9_5, hS⟩ := bd_s hS
 refine VL.callO (state_reader_many_v6_ct r_0_b q5_3_2 r_0_dec_b q5_3_1 b3_4 (⟨q5_3_0.work, q5_3_0.index, q5_3_0.refs, q5_3_0.head_branch, q5_3_0.head_commit, q5_3_0.seq_kind, q5_3_0.seq_other, q5_3_0.seq_text, q5_3_0.seq_doing, q5_3_0.seq_todo, q5_3_0.seq_made, q5_3_0.seq_branch, q5_3_0.seq_head_branch, q5_3_0.seq_head_commit, q5_3_0.seq_index, q5_3_0.seq_work, q5_3_0.stash, (⟨none, 0, []⟩ : Sv StateCommit), (⟨none, 0, []⟩ : Sv Str), (⟨none, 0, []⟩ : Sv Str), 0⟩ : StateState) b1_1 ey9_5) rfl (by decide) ?_
 rintro ⟨q9_5_0, q9_5_1, q9_5_2⟩ rfl
 try dsimp only
 refine Zl ?_
 refine Zq (Zr ?_)
 refine Zu (q_field gfa93_1 rfl) ?_
 refine Zu (q_fe gone68 rfl rfl) ?_
 refine VL.shut q9_5_2.commits 110 (fun h m => InM.out (X := MAl q9_5_2.commits.l) h m) ?_
 obtain ⟨y12_6, ey12_6, hS⟩ := bd_s hS
 refine VL.callF (slices_Clip_state_Commit_state_Commit_ct q9_5_2.commits ey12_6) rfl (by decide) ?_
 rintro q12_6_0 rfl
 try dsimp only
 refine Zu (q_field gfa93_1 rfl) ?_
 refine Zv (vc := [q12_6_0.val]) (cs' := [q9_5_2.now_work.val, q9_5_2.now_index.val, q9_5_2.now_refs.val, str q9_5_2.now_head_branch, i64 q9_5_2.now_head_commit, str q9_5_2.now_seq_kind, i64 q9_5_2.now_seq_other, str q9_5_2.now_seq_text, q9_5_2.now_seq_doing.val, q9_5_2.now_seq_todo.val, i64 q9_5_2.now_seq_made, str q9_5_2.now_seq_branch, str q9_5_2.now_seq_head_branch, i64 q9_5_2.now_seq_head_commit, q9_5_2.now_seq_index.val, q9_5_2.now_seq_work.val, q9_5_2.now_stash.val, q12_6_0.val, q9_5_2.log_back.val, q9_5_2.log_forth.val, i64 q9_5_2.time]) rfl gsz68 ?_
 refine Zl ?_
 refine VC.keep (ρ' := [(1, ptr b1_1 0), (2, ptr b2_2 0), (3, ptr b3_4 0)]) [1, 2, 3] rfl ?_
 refine Zq ?_
 refine VC.draw [(0, true), (2, true), (1, false), (3, false), (4, true), (5, true), (6, false)] mixed (by kernel_rfl) (by kernel_rfl) (by kernel_rfl) ?_
 refine Zw rfl (q_fe gone159 rfl rfl) ?_
 refine Zw rfl (q_fe gone159 rfl rfl) ?_
 refine VD.one rfl ?_
 obtain ⟨y15_7, ey15_7, hS⟩ := bd_s hS
 refine VL.callO (state_reader_texts_ct r_0_b q9_5_1 r_0_dec_b q9_5_0 ey15_7) rfl (by decide) ?_
 rintro ⟨q15_7_0, q15_7_1, q15_7_2⟩ rfl
 try dsimp only
 refine VL.back (D' := [(2, ptr r_0_b 0)]) (by kernel_rfl) (Pend.cons rfl (q_fe gone159 rfl rfl) (Pend.nil)) ?_
 refine VD.one rfl ?_
 obtain ⟨y17_8, ey17_8, hS⟩ := bd_s hS
 refine VL.callO (state_reader_texts_ct r_0_b q15_7_2 r_0_dec_b q15_7_1 ey17_8) rfl (by decide) ?_
 rintro ⟨q17_8_0, q17_8_1, q17_8_2⟩ rfl
 try dsimp only
 refine VL.back (D' := []) (by kernel_rfl) (Pend.nil) ?_
 refine Zw rfl (q_build (vs := [(0, q15_7_0.val), (1, q17_8_0.val)]) (cs := #[q15_7_0.val, q17_8_0.val]) rfl (by kernel_rfl)) ?_
 refine Zw rfl (q_field gfa93_2 rfl) ?_
 refine VD.one rfl ?_
 refine Zv (vc := [q15_7_0.val, q17_8_0.val]) (cs' := [q9_5_2.now_work.val, q9_5_2.now_index.val, q9_5_2.now_refs.val, str q9_5_2.now_head_branch, i64 q9_5_2.now_head_commit, str q9_5_2.now_seq_kind, i64 q9_5_2.now_seq_other, str q9_5_2.now_seq_text, q9_5_2.now_seq_doing.val, q9_5_2.now_seq_todo.val, i64 q9_5_2.now_seq_made, str q9_5_2.now_seq_branch, str q9_5_2.now_seq_head_branch, i64 q9_5_2.now_seq_head_commit, q9_5_2.now_seq_index.val, q9_5_2.now_seq_work.val, q9_5_2.now_stash.val, q12_6_0.val, q15_7_0.val, q17_8_0.val, i64 q9_5_2.time]) rfl gsz91 ?_
 refine VL.back (D' := []) (by kernel_rfl) (Pend.nil) ?_
 refine VD.to (fun _ _ h => h) ?_
 refine Zq (Zr ?_)
 refine Zu (q_fe gone159 rfl rfl) ?_
 refine Zu (q_nilCheck rfl) ?_
 refine Zu (q_field gfa161_0 rfl) ?_
 refine Zu (q_fe gone129 rfl rfl) ?_
 obtain ⟨y24_9, ey24_9, hS⟩ := bd_s hS
 refine VL.callO (codec_Dec_Int_ct r_0_dec_b q17_8_1 ey24_9) rfl (by decide) ?_
 rintro ⟨q24_9_0, q24_9_1⟩ rfl
 try dsimp only
 refine Zu (q_field gfa93_3 rfl) ?_
 refine Zv (vc := [i64 q24_9_0]) (cs' := [q9_5_2.now_work.val, q9_5_2.now_index.val, q9_5_2.now_refs.val, str q9_5_2.now_head_branch, i64 q9_5_2.now_head_commit, str q9_5_2.now_seq_kind, i64 q9_5_2.now_seq_other, str q9_5_2.now_seq_text, q9_5_2.now_seq_doing.val, q9_5_2.now_seq_todo.val, i64 q9_5_2.now_seq_made, str q9_5_2.now_seq_branch, str q9_5_2.now_seq_head_branch, i64 q9_5_2.now_seq_head_commit, q9_5_2.now_seq_index.val, q9_5_2.now_seq_work.val, q9_5_2.now_stash.val, q12_6_0.val, q15_7_0.val, q17_8_0.val, i64 q24_9_0]) rfl gsz3 ?_
 refine Zl ?_
 refine VC.keep (ρ' := [(2, ptr b2_2 0), (3, ptr b3_4 0)]) [2, 3] rfl ?_
 refine Zq (Zr ?_)
 refine Zu (q_fes gagg93 rfl rfl) ?_
 refine Zv (vc := [q9_5_2.now_work.val, q9_5_2.now_index.val, q9_5_2.now_refs.val, str q9_5_2.now_head_branch, i64 q9_5_2.now_head_commit, str q9_5_2.now_seq_kind, i64 q9_5_2.now_seq_other, str q9_5_2.now_seq_text, q9_5_2.now_seq_doing.val, q9_5_2.now_seq_todo.val, i64 q9_5_2.now_seq_made, str q9_5_2.now_seq_branch, str q9_5_2.now_seq_head_branch, i64 q9_5_2.now_seq_head_commit, q9_5_2.now_seq_index.val, q9_5_2.now_seq_work.val, q9_5_2.now_stash.val, q12_6_0.val, q15_7_0.val, q17_8_0.val, i64 q24_9_0]) (cs' := [q9_5_2.now_work.val, q9_5_2.now_index.val, q9_5_2.now_refs.val, str q9_5_2.now_head_branch, i64 q9_5_2.now_head_commit, str q9_5_2.now_seq_kind, i64 q9_5_2.now_seq_other, str q9_5_2.now_seq_text, q9_5_2.now_seq_doing.val, q9_5_2.now_seq_todo.val, i64 q9_5_2.now_seq_made, str q9_5_2.now_seq_branch, str q9_5_2.now_seq_head_branch, i64 q9_5_2.now_seq_head_commit, q9_5_2.now_seq_index.val, q9_5_2.now_seq_work.val, q9_5_2.now_stash.val, q12_6_0.val, q15_7_0.val, q17_8_0.val, i64 q24_9_0]) rfl gsz93 ?_
 refine Zl ?_
 cases hS
 exact VC.ret (finG (vs := [.agg #[q9_5_2.now_work.val, q9_5_2.now_index.val, q9_5_2.now_refs.val, str q9_5_2.now_head_branch, i64 q9_5_2.now_head_commit, str q9_5_2.now_seq_kind, i64 q9_5_2.now_seq_other, str q9_5_2.now_seq_text, q9_5_2.now_seq_doing.val, q9_5_2.now_seq_todo.val, i64 q9_5_2.now_seq_made, str q9_5_2.now_seq_branch, str q9_5_2.now_seq_head_branch, i64 q9_5_2.now_seq_head_commit, q9_5_2.now_seq_index.val, q9_5_2.now_seq_work.val, q9_5_2.now_stash.val, q12_6_0.val, q15_7_0.val, q17_8_0.val, i64 q24_9_0]]) (.inr rfl) rfl (RVs.cell gagg93 rfl rfl Rd.blk (RVs.nil)) (⟨q9_5_2.now_work, q9_5_2.now_index, q9_5_2.now_refs, q9_5_2.now_head_branch, q9_5_2.now_head_commit, q9_5_2.now_seq_kind, q9_5_2.now_seq_other, q9_5_2.now_seq_text, q9_5_2.now_seq_doing, q9_5_2.now_seq_todo, q9_5_2.now_seq_made, q9_5_2.now_seq_branch, q9_5_2.now_seq_head_branch, q9_5_2.now_seq_head_commit, q9_5_2.now_seq_index, q9_5_2.now_seq_work, q9_5_2.now_stash, q12_6_0, q15_7_0, q17_8_0, q24_9_0⟩, ⟨q24_9_1.b, q24_9_1.at_, q24_9_1.err⟩, ⟨q17_8_2.bad⟩) rfl rfl (by (try dsimp only); exact InM.out) (by (try dsimp only); exact EntO.out))
theorem state_Decode_ct (b_0 : Sv UInt8) {r : StateStateP × Err} (hS : Sh.state_Decode b_0.l = some r) :
 Ct Tryz.prog 30 [b_0.val] b_0.ok (Ow.emp) (X := StateState × Er) (fun x => .tuple #[.agg (Dat.enc x.1).toArray, x.2.val]) (fun x => r = (x.1.pl, x.2.pl)) (fun x => (x.1.m.and x.2.ok)) (fun x => Ow.emp) := by
 refine Zo Tryz.func30 Tryz.ntmps30 fun c => ?_
 unfold Sh.state_Decode at hS
 refine Zq (Zr ?_)
 refine VL.alloc (cs := [.slice none 0 0, .slice none 0 0, .slice none 0 0, str [], i64 0, str [], i64 0, str [], .slice none 0 0, .slice none 0 0, i64 0, str [], str [], i64 0, .slice none 0 0, .slice none 0 0, .slice none 0 0, .slice none 0 0, .slice none 0 0, .slice none 0 0, i64 0]) (by kernel_rfl) (by decide) fun b2_1 => ?_
 refine Zy ?_
 refine Zq (Zr ?_)
 refine Zm ?_
 obtain ⟨y8_2, ey8_2, hS⟩ := bd_s hS
 refine VL.callO (codec_Of_ct b_0 ey8_2) rfl (by decide) ?_
 rintro ⟨q8_2_0, q8_2_1⟩ rfl
 try dsimp only
 refine Zu (q_build (vs := [(0, ptr q8_2_0 0)]) (cs := #[ptr q8_2_0 0, .bool false]) rfl (by kernel_rfl)) ?_
 refine VL.box (cs := [ptr q8_2_0 0, .bool false]) rfl rfl (by decide) fun b10_3 => ?_
 refine Zy ?_
 refine Zq (Zr ?_)
 refine Zm ?_
 obtain ⟨y12_4, ey12_4, hS⟩ := bd_s hS
 refine VL.callO (state_reader_state_ct b10_3 (⟨false⟩ : StateReader) q8_2_0 q8_2_1 ey12_4) rfl (by decide) ?_
 rintro ⟨q12_4_0, q12_4_1, q12_4_2⟩ rfl
 try dsimp only
 refine VL.alloc (cs := [.slice none 0 0, .slice none 0 0, .slice none 0 0, str [], i64 0, str [], i64 0, str [], .slice none 0 0, .slice none 0 0, i64 0, str [], str [], i64 0, .slice none 0 0, .slice none 0 0, .slice none 0 0, .slice none 0 0, .slice none 0 0, .slice none 0 0, i64 0]) (by kernel_rfl) (by decide) fun b5_5 => ?_
 refine Zv (vc := (zStateState q12_4_0)) (cs' := (zStateState q12_4_0)) rfl gsz93 ?_
 refine Zl ?_
 refine VC.keep (ρ' := [(2, ptr b2_1 0), (4, ptr b10_3 0), (5, ptr b5_5 0)]) [2, 4, 5] rfl ?_
 refine Zq (Zq (Zr ?_))
 refine Zm ?_
 obtain ⟨y14_6, ey14_6, hS⟩ := bd_s hS
 refine VL.callO (state_reader_end_ct b10_3 q12_4_2 q8_2_0 q12_4_1 ey14_6) rfl (by decide) ?_
 rintro q14_6_0 rfl
 try dsimp only
 refine Zy ?_
 refine Zq (Zr ?_)
 refine Zm ?_
 refine Zu (q_erne Tryz.underlying26 rfl) ?_
 refine Zl ?_
 refine Zcn hS (fun h16 hS => ?_) (fun h16 hS => ?_)
 ·
  refine Zq (Zr ?_)
  refine Zu (q_build (vs := []) (cs := #[.slice none 0 0, .slice none 0 0, .slice none 0 0, str [], i64 0, str [], i64 0, str [], .slice none 0 0, .slice none 0 0, i64 0, str [], str [], i64 0, .slice none 0 0, .slice none 0 0, .slice none 0 0, .slice none 0 0, .slice none 0 0, .slice none 0 0, i64 0]) rfl (by kernel_rfl)) ?_
  refine Zm ?_
  refine Zv (vc := [.slice none 0 0, .slice none 0 0, .slice none 0 0, str [], i64 0, str [], i64 0, str [], .slice none 0 0, .slice none 0 0, i64 0, str [], str [], i64 0, .slice none 0 0, .slice none 0 0, .slice none 0 0, .slice none 0 0, .slice none 0 0, .slice none 0 0, i64 0]) (cs' := [.slice none 0 0, .slice none 0 0, .slice none 0 0, str [], i64 0, str [], i64 0, str [], .slice none 0 0, .slice none 0 0, i64 0, str [], str [], i64 0, .slice none 0 0, .slice none 0 0, .slice none 0 0, .slice none 0 0, .slice none 0 0, .slice none 0 0, i64 0]) rfl gsz93 ?_
  refine Zy ?_
  refine VC.keep (ρ' := [(2, ptr b2_1 0), (3, q14_6_0.val)]) [2, 3] rfl ?_
  cases hS
  exact VC.ret (finG (vs := [.agg #[.slice none 0 0, .slice none 0 0, .slice none 0 0, str [], i64 0, str [], i64 0, str [], .slice none 0 0, .slice none 0 0, i64 0, str [], str [], i64 0, .slice none 0 0, .slice none 0 0, .slice none 0 0, .slice none 0 0, .slice none 0 0, .slice none 0 0, i64 0], q14_6_0.val]) (.inr rfl) rfl (RVs.cell gagg93 rfl rfl Rd.blk (RVs.tmp rfl (RVs.nil))) (⟨⟨none, 0, []⟩, ⟨none, 0, []⟩, ⟨none, 0, []⟩, [], 0, [], 0, [], ⟨none, 0, []⟩, ⟨none, 0, []⟩, 0, [], [], 0, ⟨none, 0, []⟩, ⟨none, 0, []⟩, ⟨none, 0, []⟩, ⟨none, 0, []⟩, ⟨none, 0, []⟩, ⟨none, 0, []⟩, 0⟩, q14_6_0) rfl rfl (by (try dsimp only); exact InM.out) (fun _ _ => trivial))
 refine Zk ?_
 refine Zq (Zr ?_)
 refine Zu (q_fes gagg93 rfl rfl) ?_
 refine Zv (vc := (zStateState q12_4_0)) (cs' := (zStateState q12_4_0)) rfl gsz93 ?_
 refine Zy ?_
 cases hS
 exact VC.ret (finG (vs := [.agg (zStateState q12_4_0).toArray, .nilIface]) (.inr rfl) rfl (RVs.cell gagg93 rfl rfl Rd.blk (RVs.tmp rfl (RVs.nil))) (q12_4_0, .nil) rfl rfl (by (try dsimp only); exact InM.out) (fun _ _ => trivial))
theorem state_scale_texts_ct (x_0_b : Nat) (x_0 : StateScale) (l_1 : Sv Str) {r : StateScale} (hS : Sh.state_scale_texts x_0 l_1.l = some r) :
 Ct Tryz.prog 167 [ptr x_0_b 0, l_1.val] l_1.ok (Blk x_0_b [i64 x_0.n] 176) (X := StateScale) (fun x => .tuple #[]) (fun x => r = x) (fun x => Mo.tt) (fun x => Blk x_0_b [i64 x.n] 176) := by
 refine Zo Tryz.func167 Tryz.ntmps167 fun c => ?_
 unfold Sh.state_scale_texts at hS
 refine Zq (Zr ?_)
 refine Zm ?_
 refine Zu (q_ln (s := l_1) Tryz.underlying89 rfl) ?_
 refine Zy ?_
 refine Zb ?_
 refine VC.iter (S := Int × Int) (fun sg => (sg.1, sg.2)) (fun sg => [(0, ptr x_0_b 0), (6, l_1.val), (7, i64 (l_1.l.length : Int)), (8, i64 sg.1)]) (fun sg => Mo.tt) (fun sg => Ow.star (Blk x_0_b [i64 sg.2] 176) (Ow.emp)) (0, x_0.n) [0, 6, 7, 8] hS rfl ?_
 clear hS
 rintro ⟨x8_1, c0_2⟩ m1 y1 hS hK1
 refine Zq (Zr ?_)
 refine Zu (q_lss rfl rfl) ?_
 refine Zl ?_
 refine Zq ?_
 refine Zc hS (fun h9 hS => ?_) (fun h9 hS => ?_)
 ·
  refine Zk ?_
  refine Zq (Zb (Zq (Zr ?_)))
  obtain ⟨z10_3, nz10_3, hz10_3, hS⟩ := at_s hS
  refine Zu (q_ixm (s := l_1) Tryz.underlying89 gsz9 rfl rfl nz10_3 (lt_of_get nz10_3 hz10_3)) ?_
  refine Zu (q_el (s := l_1) gone9 rfl hz10_3 rfl) ?_
  refine Zy ?_
  refine Zr ?_
  refine Zm ?_
  refine Zu (q_nilCheck rfl) ?_
  refine Zu (q_field gfa176_0 rfl) ?_
  refine Zu (q_fe gone3 rfl rfl) ?_
  refine Zm ?_
  refine Zu (q_slen Tryz.underlying9 rfl) ?_
  obtain ⟨b18, hS⟩ := gd_s hS
  refine Zu (q_add rfl rfl b18) ?_
  refine Zu (q_nilCheck rfl) ?_
  refine Zu (q_field gfa176_0 rfl) ?_
  refine Zv (vc := [i64 (c0_2 + (z10_3.length : Int))]) (cs' := [i64 (c0_2 + (z10_3.length : Int))]) rfl gsz3 ?_
  refine Zl ?_
  refine VC.keep (ρ' := [(0, ptr x_0_b 0), (6, l_1.val), (7, i64 (l_1.l.length : Int)), (8, i64 x8_1)]) [0, 6, 7, 8] rfl ?_
  refine Zr ?_
  obtain ⟨b21, hS⟩ := gd_s hS
  refine Zu (q_add rfl rfl b21) ?_
  refine Zm ?_
  refine VL.rnd ((x8_1 + 1), (c0_2 + (z10_3.length : Int))) [0, 6, 7, 8] (fun _ _ h => h) (go2 hS hK1) rfl
 replace hS := up2 hS hK1
 cases hS
 exact VC.exit (fin0 (.inl rfl) rfl ⟨c0_2⟩ rfl rfl (by (try dsimp only); exact InM.out) (by (try dsimp only); exact EntO.out))
theorem state_scale_thing_ct (x_0_b : Nat) (x_0 : StateScale) (l_1 : Sv Str) {r : StateScale} (hS : Sh.state_scale_thing x_0 l_1.l = some r) :
 Ct Tryz.prog 83 [ptr x_0_b 0, l_1.val] l_1.ok (Blk x_0_b [i64 x_0.n] 176) (X := StateScale) (fun x => .tuple #[]) (fun x => r = x) (fun x => Mo.tt) (fun x => Blk x_0_b [i64 x.n] 176) := by
 refine Zo Tryz.func83 Tryz.ntmps83 fun c => ?_
 unfold Sh.state_scale_thing at hS
 refine Zq (Zr ?_)
 refine Zm ?_
 refine Zu (q_nilCheck rfl) ?_
 refine Zu (q_field gfa176_0 rfl) ?_
 refine Zu (q_fe gone3 rfl rfl) ?_
 obtain ⟨b8, hS⟩ := gd_s hS
 refine Zu (q_add rfl rfl b8) ?_
 refine Zu (q_nilCheck rfl) ?_
 refine Zu (q_field gfa176_0 rfl) ?_
 refine Zv (vc := [i64 (x_0.n + 16)]) (cs' := [i64 (x_0.n + 16)]) rfl gsz3 ?_
 refine Zl ?_
 refine Zr ?_
 refine Zy ?_
 obtain ⟨y13_1, ey13_1, hS⟩ := bd_s hS
 refine VL.callO (state_scale_texts_ct x_0_b (⟨(x_0.n + 16)⟩ : StateScale) l_1 ey13_1) rfl (by decide) ?_
 rintro _ rfl
 try dsimp only
 cases hS
 exact VL.nil (fin0 (.inl rfl) rfl ⟨y13_1.n⟩ rfl rfl (by (try dsimp only); exact InM.out) (by (try dsimp only); exact EntO.out))
theorem state_scale_row_ct (x_0_b : Nat) (x_0 : StateScale) (r_1 : Sv FilesFile) {r : StateScale} (hS : Sh.state_scale_row x_0 r_1.l = some r) :
 Ct Tryz.prog 84 [ptr x_0_b 0, r_1.val] r_1.ok (Blk x_0_b [i64 x_0.n] 176) (X := StateScale) (fun x => .tuple #[]) (fun x => r = x) (fun x => Mo.tt) (fun x => Blk x_0_b [i64 x.n] 176) := by
 refine Zo Tryz.func84 Tryz.ntmps84 fun c => ?_
 unfold Sh.state_scale_row at hS
 refine Zq (Zr ?_)
 refine Zm ?_
 refine Zu (q_ln (s := r_1) Tryz.underlying50 rfl) ?_
 refine Zy ?_
 refine Zb ?_
 refine VC.iter (S := Int × Int) (fun sg => (sg.1, sg.2)) (fun sg => [(0, ptr x_0_b 0), (6, r_1.val), (7, i64 (r_1.l.length : Int)), (8, i64 sg.1)]) (fun sg => Mo.tt) (fun sg => Ow.star (Blk x_0_b [i64 sg.2] 176) (Ow.emp)) (0, x_0.n) [0, 6, 7, 8] hS rfl ?_
 clear hS
 rintro ⟨x8_1, c0_2⟩ m1 y1 hS hK1
 refine Zq (Zr ?_)
 refine Zu (q_lss rfl rfl) ?_
 refine Zl ?_
 refine Zq ?_
 refine Zc hS (fun h9 hS => ?_) (fun h9 hS => ?_)
 ·
  refine Zk ?_
  refine Zq (Zb (Zq (Zr ?_)))
  obtain ⟨z10_3, nz10_3, hz10_3, hS⟩ := at_s hS
  refine Zu (q_ixm (s := r_1) Tryz.underlying50 gsz185 rfl rfl nz10_3 (lt_of_get nz10_3 hz10_3)) ?_
  refine Zu (q_els (s := r_1) gagg185 rfl rfl hz10_3) ?_
  refine VL.alloc (cs := [str [], i64 0, str []]) (by kernel_rfl) (by decide) fun b5_4 => ?_
  refine Zv (vc := [str z10_3.path, i64 z10_3.mode, str z10_3.data]) (cs' := [str z10_3.path, i64 z10_3.mode, str z10_3.data]) rfl gsz185 ?_
  refine Zl ?_
  refine Zr ?_
  refine Zm ?_
  refine Zu (q_field gfa185_0 rfl) ?_
  refine Zu (q_fe gone9 rfl rfl) ?_
  refine Zu (q_field gfa185_2 rfl) ?_
  refine Zu (q_fe gone9 rfl rfl) ?_
  refine VL.lit (α := Str) (xs := [.tmp 14, .tmp 16]) (vs := [str z10_3.path, str z10_3.data]) [z10_3.path, z10_3.data] Tryz.underlying89 glit9 (by decide) rfl rfl rfl rfl (by decide) (fun _ _ _ _ => trivial) (by decide) (fun s17_5 hs17_5 => ?_) (by decide)
  replace hS := lt_to hs17_5 hS
  obtain ⟨y18_7, ey18_7, hS⟩ := bd_s hS
  refine VL.callO (state_scale_thing_ct x_0_b (⟨c0_2⟩ : StateScale) s17_5 ey18_7) rfl (by decide) ?_
  rintro _ rfl
  try dsimp only
  refine Zl ?_
  refine VC.keep (ρ' := [(0, ptr x_0_b 0), (6, r_1.val), (7, i64 (r_1.l.length : Int)), (8, i64 x8_1)]) [0, 6, 7, 8] rfl ?_
  refine Zr ?_
  obtain ⟨b19, hS⟩ := gd_s hS
  refine Zu (q_add rfl rfl b19) ?_
  refine Zm ?_
  refine VL.rnd ((x8_1 + 1), y18_7.n) [0, 6, 7, 8] (fun _ _ h => h) (go2 hS hK1) rfl
 replace hS := up2 hS hK1
 cases hS
 exact VC.exit (fin0 (.inl rfl) rfl ⟨c0_2⟩ rfl rfl (by (try dsimp only); exact InM.out) (by (try dsimp only); exact EntO.out))
theorem state_scale_entries_ct (x_0_b : Nat) (x_0 : StateScale) (l_1 : Sv IndexEntry) {r : StateScale} (hS : Sh.state_scale_entries x_0 l_1.l = some r) :
 Ct Tryz.prog 166 [ptr x_0_b 0, l_1.val] l_1.ok (Blk x_0_b [i64 x_0.n] 176) (X := StateScale) (fun x => .tuple #[]) (fun x => r = x) (fun x => Mo.tt) (fun x => Blk x_0_b [i64 x.n] 176) := by
 refine Zo Tryz.func166 Tryz.ntmps166 fun c => ?_
 unfold Sh.state_scale_entries at hS
 refine Zq (Zr ?_)
 refine Zm ?_
 refine Zu (q_ln (s := l_1) Tryz.underlying51 rfl) ?_
 refine Zy ?_
 refine Zb ?_
 refine VC.iter (S := Int × Int) (fun sg => (sg.1, sg.2)) (fun sg => [(0, ptr x_0_b 0), (6, l_1.val), (7, i64 (l_1.l.length : Int)), (8, i64 sg.1)]) (fun sg => Mo.tt) (fun sg => Ow.star (Blk x_0_b [i64 sg.2] 176) (Ow.emp)) (0, x_0.n) [0, 6, 7, 8] hS rfl ?_
 clear hS
 rintro ⟨x8_1, c0_2⟩ m1 y1 hS hK1
 refine Zq (Zr ?_)
 refine Zu (q_lss rfl rfl) ?_
 refine Zl ?_
 refine Zq ?_
 refine Zc hS (fun h9 hS => ?_) (fun h9 hS => ?_)
 ·
  refine Zk ?_
  refine Zq (Zb (Zq (Zr ?_)))
  obtain ⟨z10_3, nz10_3, hz10_3, hS⟩ := at_s hS
  refine Zu (q_ixm (s := l_1) Tryz.underlying51 gsz218 rfl rfl nz10_3 (lt_of_get nz10_3 hz10_3)) ?_
  refine Zu (q_els (s := l_1) gagg218 rfl rfl hz10_3) ?_
  refine VL.alloc (cs := [str [], i64 0, i64 0, str [], i64 0, i64 0]) (by kernel_rfl) (by decide) fun b5_4 => ?_
  refine Zv (vc := [str z10_3.path, i64 z10_3.stage, i64 z10_3.mode, str z10_3.data, i64 z10_3.time, i64 z10_3.size]) (cs' := [str z10_3.path, i64 z10_3.stage, i64 z10_3.mode, str z10_3.data, i64 z10_3.time, i64 z10_3.size]) rfl gsz218 ?_
  refine Zl ?_
  refine Zr ?_
  refine Zm ?_
  refine Zu (q_field gfa218_0 rfl) ?_
  refine Zu (q_fe gone9 rfl rfl) ?_
  refine Zu (q_field gfa218_3 rfl) ?_
  refine Zu (q_fe gone9 rfl rfl) ?_
  refine VL.lit (α := Str) (xs := [.tmp 14, .tmp 16]) (vs := [str z10_3.path, str z10_3.data]) [z10_3.path, z10_3.data] Tryz.underlying89 glit9 (by decide) rfl rfl rfl rfl (by decide) (fun _ _ _ _ => trivial) (by decide) (fun s17_5 hs17_5 => ?_) (by decide)
  replace hS := lt_to hs17_5 hS
  obtain ⟨y18_7, ey18_7, hS⟩ := bd_s hS
  refine VL.callO (state_scale_thing_ct x_0_b (⟨c0_2⟩ : StateScale) s17_5 ey18_7) rfl (by decide) ?_
  rintro _ rfl
  try dsimp only
  refine Zl ?_
  refine VC.keep (ρ' := [(0, ptr x_0_b 0), (6, l_1.val), (7, i64 (l_1.l.length : Int)), (8, i64 x8_1)]) [0, 6, 7, 8] rfl ?_
  refine Zr ?_
  obtain ⟨b19, hS⟩ := gd_s hS
  refine Zu (q_add rfl rfl b19) ?_
  refine Zm ?_
  refine VL.rnd ((x8_1 + 1), y18_7.n) [0, 6, 7, 8] (fun _ _ h => h) (go2 hS hK1) rfl
 replace hS := up2 hS hK1
 cases hS
 exact VC.exit (fin0 (.inl rfl) rfl ⟨c0_2⟩ rfl rfl (by (try dsimp only); exact InM.out) (by (try dsimp only); exact EntO.out))
theorem slices_Grow_todo_Step_todo_Step_ct (n_1 : Int) {r : List TodoStep} (hS : Sh.slices_Grow_todo_Step_todo_Step n_1 = some r) :
 Ct Tryz.prog 214 [.slice none 0 0, i64 n_1] Mo.tt (Ow.emp) (X := Sv TodoStep) (fun x => x.val) (fun x => r = x.l) (fun x => Mo.tt) (fun x => Sv.own x 278) := by
 refine Zo Tryz.func214 Tryz.ntmps214 fun c => ?_
 unfold Sh.slices_Grow_todo_Step_todo_Step at hS
 refine Zq (Zr ?_)
 refine Zy ?_
 refine Zq (Zq (Zr ?_))
 refine Zm ?_
 refine Zu (q_lss rfl rfl) ?_
 refine Zl ?_
 refine Zc hS (fun h6 hS => ?_) (fun h6 hS => ?_)
 ·
  refine Zr ?_
  refine Zu (q_mkif Tryz.underlying9 (fun _ h => by cases h) rfl) ?_
  cases hS
 refine Zk ?_
 refine Zq (Zq (Zr ?_))
 refine Zy ?_
 refine Zu (q_cap0 Tryz.underlying55 rfl) ?_
 refine Zm ?_
 refine Zu (q_len Tryz.underlying55 rfl) ?_
 obtain ⟨b13, hS⟩ := gd_s hS
 refine Zu (q_sub rfl rfl b13) ?_
 obtain ⟨b14, hS⟩ := gd_s hS
 refine Zu (q_sub rfl rfl b14) ?_
 refine Zy ?_
 refine VC.keep (ρ' := [(0, .slice none 0 0), (1, i64 (n_1 - (0 - 0)))]) [0, 1] rfl ?_
 refine Zq (Zr ?_)
 refine Zm ?_
 refine Zu (q_gtr rfl rfl) ?_
 refine Zl ?_
 refine Zc hS (fun h16 hS => ?_) (fun h16 hS => ?_)
 ·
  refine Zr ?_
  refine Zy ?_
  refine Zu (q_cap0 Tryz.underlying55 rfl) ?_
  refine Zu (q_nil0 TodoStep Tryz.underlying55 gsz278 rfl rfl) ?_
  refine Zm ?_
  obtain ⟨b22, hS⟩ := gd_s hS
  refine VL.appZ (α := TodoStep) (z := ⟨[], 0, []⟩) Tryz.underlying55 Tryz.underlying3 gmk278 (by decide) rfl b22.1 b22.2 (by decide) (by decide) fun s22_1 hs22_1 => ?_
  replace hS := lt_to hs22_1 hS
  refine Zm ?_
  refine Zu (q_len Tryz.underlying55 rfl) ?_
  refine VL.own0 (s := s22_1) Tryz.underlying55 gsz278 rfl rfl Fo.out (by decide) fun s25_3 hs25_3 => ?_
  replace hS := lt_to hs25_3 hS
  refine Zy ?_
  refine VC.keep (ρ' := [(0, s25_3.val)]) [0] rfl ?_
  refine Zq (Zr ?_)
  refine Zy ?_
  cases hS
  exact VC.ret (fin1 (.inr rfl) rfl rfl s25_3 rfl rfl (by (try dsimp only); exact InM.out) (by (try dsimp only); exact EntO.out))
 refine Zk ?_
 refine Zq (Zr ?_)
 refine Zy ?_
 refine VC.nilO (⟨none, 0, []⟩ : Sv TodoStep) 278 ⟨rfl, rfl⟩ ?_
 cases hS
 exact VC.ret (fin1 (.inr rfl) rfl rfl ⟨none, 0, []⟩ rfl rfl (by (try dsimp only); exact InM.out) (by (try dsimp only); exact EntO.out))
theorem slices_Concat_todo_Step_todo_Step_ct (slices_0 : Sv (Sv TodoStep)) {r : List TodoStep} (hS : Sh.slices_Concat_todo_Step_todo_Step (slices_0.l.map Sv.l) = some r) :
 Ct Tryz.prog 168 [slices_0.val] slices_0.ok (Ow.emp) (X := Sv TodoStep) (fun x => x.val) (fun x => r = x.l) (fun x => Mo.tt) (fun x => Sv.own x 278) := by
 refine Zo Tryz.func168 Tryz.ntmps168 fun c => ?_
 unfold Sh.slices_Concat_todo_Step_todo_Step at hS
 refine Zq (Zr ?_)
 refine Zy ?_
 refine Zq (Zr ?_)
 refine Zy ?_
 refine Zq (Zq (Zr ?_))
 refine Zm ?_
 refine Zu (q_lnm Sv.l (s := slices_0) Tryz.underlying324 rfl) ?_
 refine Zy ?_
 refine Zb ?_
 refine VC.iter (S := Int × Int) (fun sg => (sg.1, sg.2)) (fun sg => [(0, slices_0.val), (3, i64 sg.1), (9, slices_0.val), (10, i64 ((slices_0.l.map Sv.l).length : Int)), (11, i64 sg.2)]) (fun sg => Mo.tt) (fun sg => Ow.emp) (0, 0) [0, 3, 9, 10, 11] hS rfl ?_
 clear hS
 rintro ⟨size3_1, x11_2⟩ m1 y1 hS hK1
 refine Zq (Zr ?_)
 refine Zu (q_lss rfl rfl) ?_
 refine Zl ?_
 refine Zq ?_
 refine Zc hS (fun h12 hS => ?_) (fun h12 hS => ?_)
 ·
  refine Zk ?_
  refine Zq (Zb (Zq (Zr ?_)))
  obtain ⟨z13_3, nz13_3, hz13_3, hS⟩ := atm_s hS
  refine VL.deep z13_3.ok hz13_3 (fun _ q => q) ?_
  refine Zu (q_ixm (s := slices_0) Tryz.underlying324 gsz55 rfl rfl nz13_3 (lt_of_get nz13_3 hz13_3)) ?_
  refine Zu (q_el (s := slices_0) gone55 rfl hz13_3 rfl) ?_
  refine Zy ?_
  refine Zq (Zr ?_)
  refine Zy ?_
  refine Zu (q_ln (s := z13_3) Tryz.underlying55 rfl) ?_
  obtain ⟨b18, hS⟩ := gd_s hS
  refine Zu (q_add rfl rfl b18) ?_
  refine Zy ?_
  refine VC.keep (ρ' := [(0, slices_0.val), (3, i64 (size3_1 + (z13_3.l.length : Int))), (9, slices_0.val), (10, i64 ((slices_0.l.map Sv.l).length : Int)), (11, i64 x11_2)]) [0, 3, 9, 10, 11] rfl ?_
  refine Zq (Zr ?_)
  refine Zm ?_
  refine Zu (q_lss rfl rfl) ?_
  refine Zl ?_
  refine Zc hS (fun h20 hS => ?_) (fun h20 hS => ?_)
  ·
   refine Zr ?_
   refine Zu (q_mkif Tryz.underlying9 (fun _ h => by cases h) rfl) ?_
   cases hS
  refine Zk ?_
  refine Zr ?_
  obtain ⟨b22, hS⟩ := gd_s hS
  refine Zu (q_add rfl rfl b22) ?_
  refine Zm ?_
  refine VL.rnd ((size3_1 + (z13_3.l.length : Int)), (x11_2 + 1)) [0, 3, 9, 10, 11] (fun _ _ h => h) (go2 hS hK1) rfl
 replace hS := up2 hS hK1
 refine Zx ?_
 refine Zq (Zr ?_)
 refine Zm ?_
 obtain ⟨y24_4, ey24_4, hS⟩ := bd_s hS
 refine VL.callO (slices_Grow_todo_Step_todo_Step_ct size3_1 ey24_4) rfl (by decide) ?_
 rintro q24_4_0 rfl
 try dsimp only
 refine Zy ?_
 refine Zq (Zq (Zr ?_))
 refine Zm ?_
 refine Zu (q_lnm Sv.l (s := slices_0) Tryz.underlying324 rfl) ?_
 refine Zy ?_
 refine VC.keep (ρ' := [(6, q24_4_0.val), (25, slices_0.val), (26, i64 ((slices_0.l.map Sv.l).length : Int)), (27, i64 0)]) [6, 25, 26, 27] rfl ?_
 refine Zb ?_
 refine VC.iter (S := Sv TodoStep × Int) (fun sg => (sg.1.l, sg.2)) (fun sg => [(6, sg.1.val), (25, slices_0.val), (26, i64 ((slices_0.l.map Sv.l).length : Int)), (27, i64 sg.2)]) (fun sg => Mo.tt) (fun sg => Ow.star (Sv.own sg.1 278) (Ow.emp)) (q24_4_0, 0) [6, 25, 26, 27] hS rfl ?_
 clear hS
 rintro ⟨newslice6_5, x27_6⟩ m1 y1 hS hK1
 refine Zq (Zr ?_)
 refine Zu (q_lss rfl rfl) ?_
 refine Zl ?_
 refine Zq ?_
 refine Zc hS (fun h28 hS => ?_) (fun h28 hS => ?_)
 ·
  refine Zk ?_
  refine Zq (Zb (Zq (Zr ?_)))
  obtain ⟨z29_7, nz29_7, hz29_7, hS⟩ := atm_s hS
  refine VL.deep z29_7.ok hz29_7 (fun _ q => q) ?_
  refine Zu (q_ixm (s := slices_0) Tryz.underlying324 gsz55 rfl rfl nz29_7 (lt_of_get nz29_7 hz29_7)) ?_
  refine Zu (q_el (s := slices_0) gone55 rfl hz29_7 rfl) ?_
  refine Zy ?_
  refine Zr ?_
  refine Zy ?_
  obtain ⟨b33, hS⟩ := gd_s hS
  refine VL.app (s := newslice6_5) (r := z29_7) Tryz.underlying55 gapp278 (by decide) rfl Fo.out (ap1 b33) (ap2 b33 (by decide)) (by decide) (fun s33_8 hs33_8 => ?_)
  replace hS := lt_to hs33_8 hS
  refine Zy ?_
  refine VC.keep (ρ' := [(6, s33_8.val), (25, slices_0.val), (26, i64 ((slices_0.l.map Sv.l).length : Int)), (27, i64 x27_6)]) [6, 25, 26, 27] rfl ?_
  refine Zr ?_
  obtain ⟨b34, hS⟩ := gd_s hS
  refine Zu (q_add rfl rfl b34) ?_
  refine Zm ?_
  refine VL.rnd (s33_8, (x27_6 + 1)) [6, 25, 26, 27] (fun _ _ h => h) (go2 hS hK1) rfl
 replace hS := up2 hS hK1
 refine Zx ?_
 refine Zq (Zr ?_)
 refine Zy ?_
 cases hS
 exact VC.ret (fin1 (.inr rfl) rfl rfl newslice6_5 rfl rfl (by (try dsimp only); exact InM.out) (by (try dsimp only); exact EntO.out))
theorem state_scale_now_ct (x_0_b : Nat) (x_0 : StateScale) (n_1 : StateNow) {r : StateScale} (hS : Sh.state_scale_now x_0 n_1.pl = some r) :
 Ct Tryz.prog 82 [ptr x_0_b 0, .agg #[n_1.work.val, n_1.index.val, n_1.refs.val, str n_1.head_branch, i64 n_1.head_commit, str n_1.seq_kind, i64 n_1.seq_other, str n_1.seq_text, n_1.seq_doing.val, n_1.seq_todo.val, i64 n_1.seq_made, str n_1.seq_branch, str n_1.seq_head_branch, i64 n_1.seq_head_commit, n_1.seq_index.val, n_1.seq_work.val, n_1.stash.val]] (n_1.work.ok.and (n_1.index.ok.and (n_1.refs.ok.and (n_1.seq_doing.ok.and (n_1.seq_todo.ok.and (n_1.seq_index.ok.and (n_1.seq_work.ok.and n_1.stash.ok))))))) (Blk x_0_b [i64 x_0.n] 176) (X := StateScale) (fun x => .tuple #[]) (fun x => r = x) (fun x => Mo.tt) (fun x => Blk x_0_b [i64 x.n] 176) := by
 refine Zo Tryz.func82 Tryz.ntmps82 fun c => ?_
 unfold Sh.state_scale_now at hS
 refine Zq (Zr ?_)
 refine VL.box (cs := [n_1.work.val, n_1.index.val, n_1.refs.val, str n_1.head_branch, i64 n_1.head_commit, str n_1.seq_kind, i64 n_1.seq_other, str n_1.seq_text, n_1.seq_doing.val, n_1.seq_todo.val, i64 n_1.seq_made, str n_1.seq_branch, str n_1.seq_head_branch, i64 n_1.seq_head_commit, n_1.seq_index.val, n_1.seq_work.val, n_1.stash.val]) rfl rfl (by decide) fun b3_1 => ?_
 refine Zl ?_
 refine Zq (Zr ?_)
 refine Zm ?_
 refine Zu (q_field gfa61_0 rfl) ?_
 refine Zu (q_fe gone50 rfl rfl) ?_
 obtain ⟨y14_2, ey14_2, hS⟩ := bd_s hS
 refine VL.callO (state_scale_row_ct x_0_b x_0 n_1.work ey14_2) rfl (by decide) ?_
 rintro _ rfl
 try dsimp only
 refine Zl ?_
 refine Zq (Zr ?_)
 refine Zm ?_
 refine Zu (q_field gfa61_1 rfl) ?_
 refine Zu (q_fe gone51 rfl rfl) ?_
 obtain ⟨y18_3, ey18_3, hS⟩ := bd_s hS
 refine VL.callO (state_scale_entries_ct x_0_b y14_2 n_1.index ey18_3) rfl (by decide) ?_
 rintro _ rfl
 try dsimp only
 refine Zl ?_
 refine VC.keep (ρ' := [(0, ptr x_0_b 0), (3, ptr b3_1 0)]) [0, 3] rfl ?_
 refine Zq (Zq (Zr ?_))
 refine Zu (q_field gfa61_2 rfl) ?_
 refine Zu (q_fe gone52 rfl rfl) ?_
 refine Zu (q_ln (s := n_1.refs) Tryz.underlying52 rfl) ?_
 refine Zy ?_
 refine Zb ?_
 refine VC.iter (S := Int × Int) (fun sg => (sg.1, sg.2)) (fun sg => [(0, ptr x_0_b 0), (3, ptr b3_1 0), (20, n_1.refs.val), (21, i64 (n_1.refs.l.length : Int)), (22, i64 sg.1)]) (fun sg => Mo.tt) (fun sg => Ow.star (Blk x_0_b [i64 sg.2] 176) (Ow.star (Blk b3_1 [n_1.work.val, n_1.index.val, n_1.refs.val, str n_1.head_branch, i64 n_1.head_commit, str n_1.seq_kind, i64 n_1.seq_other, str n_1.seq_text, n_1.seq_doing.val, n_1.seq_todo.val, i64 n_1.seq_made, str n_1.seq_branch, str n_1.seq_head_branch, i64 n_1.seq_head_commit, n_1.seq_index.val, n_1.seq_work.val, n_1.stash.val] 61) (Ow.emp))) (0, y18_3.n) [0, 3, 20, 21, 22] hS rfl ?_
 clear hS
 rintro ⟨x22_4, c0_5⟩ m1 y1 hS hK1
 refine Zq (Zr ?_)
 refine Zu (q_lss rfl rfl) ?_
 refine Zl ?_
 refine Zq ?_
 refine Zc hS (fun h23 hS => ?_) (fun h23 hS => ?_)
 ·
  refine Zk ?_
  refine Zq (Zb (Zq (Zr ?_)))
  obtain ⟨z24_6, nz24_6, hz24_6, hS⟩ := at_s hS
  refine Zu (q_ixm (s := n_1.refs) Tryz.underlying52 gsz216 rfl rfl nz24_6 (lt_of_get nz24_6 hz24_6)) ?_
  refine Zu (q_els (s := n_1.refs) gagg216 rfl rfl hz24_6) ?_
  refine VL.alloc (cs := [str [], i64 0]) (by kernel_rfl) (by decide) fun b5_7 => ?_
  refine Zv (vc := [str z24_6.name, i64 z24_6.commit]) (cs' := [str z24_6.name, i64 z24_6.commit]) rfl gsz216 ?_
  refine Zl ?_
  refine Zr ?_
  refine Zm ?_
  refine Zu (q_field gfa216_0 rfl) ?_
  refine Zu (q_fe gone9 rfl rfl) ?_
  refine VL.lit (α := Str) (xs := [.tmp 28]) (vs := [str z24_6.name]) [z24_6.name] Tryz.underlying89 glit9 (by decide) rfl rfl rfl rfl (by decide) (fun _ _ _ _ => trivial) (by decide) (fun s29_8 hs29_8 => ?_) (by decide)
  replace hS := lt_to hs29_8 hS
  obtain ⟨y30_10, ey30_10, hS⟩ := bd_s hS
  refine VL.callO (state_scale_thing_ct x_0_b (⟨c0_5⟩ : StateScale) s29_8 ey30_10) rfl (by decide) ?_
  rintro _ rfl
  try dsimp only
  refine Zl ?_
  refine VC.keep (ρ' := [(0, ptr x_0_b 0), (3, ptr b3_1 0), (20, n_1.refs.val), (21, i64 (n_1.refs.l.length : Int)), (22, i64 x22_4)]) [0, 3, 20, 21, 22] rfl ?_
  refine Zr ?_
  obtain ⟨b31, hS⟩ := gd_s hS
  refine Zu (q_add rfl rfl b31) ?_
  refine Zm ?_
  refine VL.rnd ((x22_4 + 1), y30_10.n) [0, 3, 20, 21, 22] (fun _ _ h => h) (go2 hS hK1) rfl
 replace hS := up2 hS hK1
 refine Zx ?_
 refine Zq (Zr ?_)
 refine Zu (q_field gfa61_4 rfl) ?_
 refine Zu (q_fep (j := 5) (n := 11) gagg57 rfl rfl rfl) ?_
 refine VL.alloc (cs := [str [], i64 0, str [], .slice none 0 0, .slice none 0 0, i64 0, str [], str [], i64 0, .slice none 0 0, .slice none 0 0]) (by kernel_rfl) (by decide) fun b6_11 => ?_
 refine Zv (vc := [str n_1.seq_kind, i64 n_1.seq_other, str n_1.seq_text, n_1.seq_doing.val, n_1.seq_todo.val, i64 n_1.seq_made, str n_1.seq_branch, str n_1.seq_head_branch, i64 n_1.seq_head_commit, n_1.seq_index.val, n_1.seq_work.val]) (cs' := [str n_1.seq_kind, i64 n_1.seq_other, str n_1.seq_text, n_1.seq_doing.val, n_1.seq_todo.val, i64 n_1.seq_made, str n_1.seq_branch, str n_1.seq_head_branch, i64 n_1.seq_head_commit, n_1.seq_index.val, n_1.seq_work.val]) rfl gsz57 ?_
 refine Zl ?_
 refine Zq (Zr ?_)
 refine Zm ?_
 refine Zu (q_field gfa61_3 rfl) ?_
 refine Zu (q_field gfa54_0 rfl) ?_
 refine Zu (q_fe gone9 rfl rfl) ?_
 refine Zu (q_field gfa57_0 rfl) ?_
 refine Zu (q_fe gone9 rfl rfl) ?_
 refine Zu (q_field gfa57_2 rfl) ?_
 refine Zu (q_fe gone9 rfl rfl) ?_
 refine Zu (q_field gfa57_6 rfl) ?_
 refine Zu (q_fe gone9 rfl rfl) ?_
 refine Zu (q_field gfa57_7 rfl) ?_
 refine Zu (q_field gfa54_0 rfl) ?_
 refine Zu (q_fe gone9 rfl rfl) ?_
 refine VL.lit (α := Str) (xs := [.tmp 37, .tmp 39, .tmp 41, .tmp 43, .tmp 46]) (vs := [str n_1.head_branch, str n_1.seq_kind, str n_1.seq_text, str n_1.seq_branch, str n_1.seq_head_branch]) [n_1.head_branch, n_1.seq_kind, n_1.seq_text, n_1.seq_branch, n_1.seq_head_branch] Tryz.underlying89 glit9 (by decide) rfl rfl rfl rfl (by decide) (fun _ _ _ _ => trivial) (by decide) (fun s47_12 hs47_12 => ?_) (by decide)
 replace hS := lt_to hs47_12 hS
 obtain ⟨y48_14, ey48_14, hS⟩ := bd_s hS
 refine VL.callO (state_scale_texts_ct x_0_b (⟨c0_5⟩ : StateScale) s47_12 ey48_14) rfl (by decide) ?_
 rintro _ rfl
 try dsimp only
 refine Zl ?_
 refine VC.keep (ρ' := [(0, ptr x_0_b 0), (3, ptr b3_1 0), (6, ptr b6_11 0)]) [0, 3, 6] rfl ?_
 refine Zq (Zq (Zr ?_))
 refine Zu (q_field gfa57_3 rfl) ?_
 refine Zu (q_fe gone55 rfl rfl) ?_
 refine Zu (q_field gfa57_4 rfl) ?_
 refine Zu (q_fe gone55 rfl rfl) ?_
 refine VL.lit (α := Sv TodoStep) (xs := [.tmp 50, .tmp 52]) (vs := [n_1.seq_doing.val, n_1.seq_todo.val]) [n_1.seq_doing, n_1.seq_todo] Tryz.underlying324 glit55 (by decide) rfl rfl rfl rfl (by decide) (fun h m => List.forall_mem_cons.2 ⟨InM.out (X := n_1.seq_doing.ok) h m, List.forall_mem_cons.2 ⟨InM.out (X := n_1.seq_todo.ok) h m, fun _ h => by cases h⟩⟩) (by decide) (fun s53_15 hs53_15 => ?_) (by decide)
 replace hS := lt_to (congrArg (List.map Sv.l) hs53_15) hS
 obtain ⟨y54_17, ey54_17, hS⟩ := bd_s hS
 refine VL.callO (slices_Concat_todo_Step_todo_Step_ct s53_15 ey54_17) rfl (by decide) ?_
 rintro q54_17_0 rfl
 try dsimp only
 refine Zu (q_ln (s := q54_17_0) Tryz.underlying55 rfl) ?_
 refine Zy ?_
 refine Zb ?_
 refine VC.iter (S := Int × Int) (fun sg => (sg.1, sg.2)) (fun sg => [(0, ptr x_0_b 0), (3, ptr b3_1 0), (6, ptr b6_11 0), (54, q54_17_0.val), (55, i64 (q54_17_0.l.length : Int)), (56, i64 sg.1)]) (fun sg => Mo.tt) (fun sg => Ow.star (Blk x_0_b [i64 sg.2] 176) (Ow.star (Blk b6_11 [str n_1.seq_kind, i64 n_1.seq_other, str n_1.seq_text, n_1.seq_doing.val, n_1.seq_todo.val, i64 n_1.seq_made, str n_1.seq_branch, str n_1.seq_head_branch, i64 n_1.seq_head_commit, n_1.seq_index.val, n_1.seq_work.val] 57) (Ow.star (Blk b3_1 [n_1.work.val, n_1.index.val, n_1.refs.val, str n_1.head_branch, i64 n_1.head_commit, str n_1.seq_kind, i64 n_1.seq_other, str n_1.seq_text, n_1.seq_doing.val, n_1.seq_todo.val, i64 n_1.seq_made, str n_1.seq_branch, str n_1.seq_head_branch, i64 n_1.seq_head_commit, n_1.seq_index.val, n_1.seq_work.val, n_1.stash.val] 61) (Ow.star (Sv.own q54_17_0 278) (Ow.emp))))) (0, y48_14.n) [0, 3, 6, 54, 55, 56] hS rfl ?_
 clear hS
 rintro ⟨x56_18, c0_19⟩ m1 y1 hS hK1
 refine Zq (Zr ?_)
 refine Zu (q_lss rfl rfl) ?_
 refine Zl ?_
 refine Zq ?_
 refine Zc hS (fun h57 hS => ?_) (fun h57 hS => ?_)
 ·
  refine Zk ?_
  refine Zq (Zb (Zq (Zr ?_)))
  obtain ⟨z58_20, nz58_20, hz58_20, hS⟩ := at_s hS
  refine Zu (q_ixo (s := q54_17_0) Tryz.underlying55 gsz278 rfl rfl nz58_20 (lt_of_get nz58_20 hz58_20)) ?_
  refine Zu (q_elso (s := q54_17_0) gagg278 rfl rfl hz58_20) ?_
  refine VL.alloc (cs := [str [], i64 0, str []]) (by kernel_rfl) (by decide) fun b8_21 => ?_
  refine Zv (vc := [str z58_20.verb, i64 z58_20.commit, str z58_20.text]) (cs' := [str z58_20.verb, i64 z58_20.commit, str z58_20.text]) rfl gsz278 ?_
  refine Zl ?_
  refine Zr ?_
  refine Zm ?_
  refine Zu (q_field gfa278_0 rfl) ?_
  refine Zu (q_fe gone9 rfl rfl) ?_
  refine Zu (q_field gfa278_2 rfl) ?_
  refine Zu (q_fe gone9 rfl rfl) ?_
  refine VL.lit (α := Str) (xs := [.tmp 62, .tmp 64]) (vs := [str z58_20.verb, str z58_20.text]) [z58_20.verb, z58_20.text] Tryz.underlying89 glit9 (by decide) rfl rfl rfl rfl (by decide) (fun _ _ _ _ => trivial) (by decide) (fun s65_22 hs65_22 => ?_) (by decide)
  replace hS := lt_to hs65_22 hS
  obtain ⟨y66_24, ey66_24, hS⟩ := bd_s hS
  refine VL.callO (state_scale_thing_ct x_0_b (⟨c0_19⟩ : StateScale) s65_22 ey66_24) rfl (by decide) ?_
  rintro _ rfl
  try dsimp only
  refine Zl ?_
  refine VC.keep (ρ' := [(0, ptr x_0_b 0), (3, ptr b3_1 0), (6, ptr b6_11 0), (54, q54_17_0.val), (55, i64 (q54_17_0.l.length : Int)), (56, i64 x56_18)]) [0, 3, 6, 54, 55, 56] rfl ?_
  refine Zr ?_
  obtain ⟨b67, hS⟩ := gd_s hS
  refine Zu (q_add rfl rfl b67) ?_
  refine Zm ?_
  refine VL.rnd ((x56_18 + 1), y66_24.n) [0, 3, 6, 54, 55, 56] (fun _ _ h => h) (go2 hS hK1) rfl
 replace hS := up2 hS hK1
 refine Zx ?_
 refine Zq (Zr ?_)
 refine Zm ?_
 refine Zu (q_field gfa57_8 rfl) ?_
 refine Zu (q_fe gone51 rfl rfl) ?_
 obtain ⟨y71_25, ey71_25, hS⟩ := bd_s hS
 refine VL.callO (state_scale_entries_ct x_0_b (⟨c0_19⟩ : StateScale) n_1.seq_index ey71_25) rfl (by decide) ?_
 rintro _ rfl
 try dsimp only
 refine Zl ?_
 refine VC.keep (ρ' := [(0, ptr x_0_b 0), (3, ptr b3_1 0), (6, ptr b6_11 0)]) [0, 3, 6] rfl ?_
 refine Zq (Zr ?_)
 refine Zm ?_
 refine Zu (q_field gfa57_9 rfl) ?_
 refine Zu (q_fe gone50 rfl rfl) ?_
 obtain ⟨y75_26, ey75_26, hS⟩ := bd_s hS
 refine VL.callO (state_scale_row_ct x_0_b y71_25 n_1.seq_work ey75_26) rfl (by decide) ?_
 rintro _ rfl
 try dsimp only
 refine Zl ?_
 refine Zq (Zr ?_)
 refine Zu (q_field gfa61_5 rfl) ?_
 refine Zu (q_fe gone59 rfl rfl) ?_
 refine Zu (q_lnm ShelfShelf.pl (s := n_1.stash) Tryz.underlying59 rfl) ?_
 refine Zy ?_
 refine VC.keep (ρ' := [(0, ptr x_0_b 0), (77, n_1.stash.val), (78, i64 ((n_1.stash.l.map ShelfShelf.pl).length : Int)), (79, i64 0)]) [0, 77, 78, 79] rfl ?_
 refine Zb ?_
 refine VC.iter (S := Int × Int) (fun sg => (sg.1, sg.2)) (fun sg => [(0, ptr x_0_b 0), (77, n_1.stash.val), (78, i64 ((n_1.stash.l.map ShelfShelf.pl).length : Int)), (79, i64 sg.1)]) (fun sg => Mo.tt) (fun sg => Ow.star (Blk x_0_b [i64 sg.2] 176) (Ow.star (Blk b6_11 [str n_1.seq_kind, i64 n_1.seq_other, str n_1.seq_text, n_1.seq_doing.val, n_1.seq_todo.val, i64 n_1.seq_made, str n_1.seq_branch, str n_1.seq_head_branch, i64 n_1.seq_head_commit, n_1.seq_index.val, n_1.seq_work.val] 57) (Ow.star (Blk b3_1 [n_1.work.val, n_1.index.val, n_1.refs.val, str n_1.head_branch, i64 n_1.head_commit, str n_1.seq_kind, i64 n_1.seq_other, str n_1.seq_text, n_1.seq_doing.val, n_1.seq_todo.val, i64 n_1.seq_made, str n_1.seq_branch, str n_1.seq_head_branch, i64 n_1.seq_head_commit, n_1.seq_index.val, n_1.seq_work.val, n_1.stash.val] 61) (Ow.emp)))) (0, y75_26.n) [0, 77, 78, 79] hS rfl ?_
 clear hS
 rintro ⟨x79_27, c0_28⟩ m1 y1 hS hK1
 refine Zq (Zr ?_)
 refine Zu (q_lss rfl rfl) ?_
 refine Zl ?_
 refine Zq ?_
 refine Zc hS (fun h80 hS => ?_) (fun h80 hS => ?_)
 ·
  refine Zk ?_
  refine Zq (Zb (Zq (Zr ?_)))
  obtain ⟨z81_29, nz81_29, hz81_29, hS⟩ := atm_s hS
  refine VL.deep z81_29.m hz81_29 (fun _ q => q) ?_
  refine Zu (q_ixm (s := n_1.stash) Tryz.underlying59 gsz155 rfl rfl nz81_29 (lt_of_get nz81_29 hz81_29)) ?_
  refine Zu (q_els (s := n_1.stash) gagg155 rfl rfl hz81_29) ?_
  refine VL.alloc (cs := [i64 0, .slice none 0 0, .slice none 0 0, str []]) (by kernel_rfl) (by decide) fun b10_30 => ?_
  refine Zv (vc := [i64 z81_29.base, z81_29.index.val, z81_29.work.val, str z81_29.text]) (cs' := [i64 z81_29.base, z81_29.index.val, z81_29.work.val, str z81_29.text]) rfl gsz155 ?_
  refine Zl ?_
  refine Zq (Zr ?_)
  refine Zm ?_
  refine Zu (q_field gfa155_3 rfl) ?_
  refine Zu (q_fe gone9 rfl rfl) ?_
  refine VL.lit (α := Str) (xs := [.tmp 85]) (vs := [str z81_29.text]) [z81_29.text] Tryz.underlying89 glit9 (by decide) rfl rfl rfl rfl (by decide) (fun _ _ _ _ => trivial) (by decide) (fun s86_31 hs86_31 => ?_) (by decide)
  replace hS := lt_to hs86_31 hS
  obtain ⟨y87_33, ey87_33, hS⟩ := bd_s hS
  refine VL.callO (state_scale_thing_ct x_0_b (⟨c0_28⟩ : StateScale) s86_31 ey87_33) rfl (by decide) ?_
  rintro _ rfl
  try dsimp only
  refine Zl ?_
  refine VC.keep (ρ' := [(0, ptr x_0_b 0), (77, n_1.stash.val), (78, i64 ((n_1.stash.l.map ShelfShelf.pl).length : Int)), (79, i64 x79_27), (10, ptr b10_30 0)]) [0, 77, 78, 79, 10] rfl ?_
  refine Zq (Zr ?_)
  refine Zm ?_
  refine Zu (q_field gfa155_1 rfl) ?_
  refine Zu (q_fe gone50 rfl rfl) ?_
  obtain ⟨y91_34, ey91_34, hS⟩ := bd_s hS
  refine VL.callO (state_scale_row_ct x_0_b y87_33 z81_29.index ey91_34) rfl (by decide) ?_
  rintro _ rfl
  try dsimp only
  refine Zl ?_
  refine Zr ?_
  refine Zm ?_
  refine Zu (q_field gfa155_2 rfl) ?_
  refine Zu (q_fe gone50 rfl rfl) ?_
  obtain ⟨y95_35, ey95_35, hS⟩ := bd_s hS
  refine VL.callO (state_scale_row_ct x_0_b y91_34 z81_29.work ey95_35) rfl (by decide) ?_
  rintro _ rfl
  try dsimp only
  refine Zl ?_
  refine VC.keep (ρ' := [(0, ptr x_0_b 0), (77, n_1.stash.val), (78, i64 ((n_1.stash.l.map ShelfShelf.pl).length : Int)), (79, i64 x79_27)]) [0, 77, 78, 79] rfl ?_
  refine Zr ?_
  obtain ⟨b96, hS⟩ := gd_s hS
  refine Zu (q_add rfl rfl b96) ?_
  refine Zm ?_
  refine VL.rnd ((x79_27 + 1), y95_35.n) [0, 77, 78, 79] (fun _ _ h => h) (go2 hS hK1) rfl
 replace hS := up2 hS hK1
 cases hS
 exact VC.exit (fin0 (.inl rfl) rfl ⟨c0_28⟩ rfl rfl (by (try dsimp only); exact InM.out) (by (try dsimp only); exact EntO.out))
theorem slices_Grow_string_string_ct (n_1 : Int) {r : List Str} (hS : Sh.slices_Grow_string_string n_1 = some r) :
 Ct Tryz.prog 169 [.slice none 0 0, i64 n_1] Mo.tt (Ow.emp) (X := Sv Str) (fun x => x.val) (fun x => r = x.l) (fun x => Mo.tt) (fun x => Sv.own x 9) := by
 refine Zo Tryz.func169 Tryz.ntmps169 fun c => ?_
 unfold Sh.slices_Grow_string_string at hS
 refine Zq (Zr ?_)
 refine Zy ?_
 refine Zq (Zq (Zr ?_))
 refine Zm ?_
 refine Zu (q_lss rfl rfl) ?_
 refine Zl ?_
 refine Zc hS (fun h6 hS => ?_) (fun h6 hS => ?_)
 ·
  refine Zr ?_
  refine Zu (q_mkif Tryz.underlying9 (fun _ h => by cases h) rfl) ?_
  cases hS
 refine Zk ?_
 refine Zq (Zq (Zr ?_))
 refine Zy ?_
 refine Zu (q_cap0 Tryz.underlying89 rfl) ?_
 refine Zm ?_
 refine Zu (q_len Tryz.underlying89 rfl) ?_
 obtain ⟨b13, hS⟩ := gd_s hS
 refine Zu (q_sub rfl rfl b13) ?_
 obtain ⟨b14, hS⟩ := gd_s hS
 refine Zu (q_sub rfl rfl b14) ?_
 refine Zy ?_
 refine VC.keep (ρ' := [(0, .slice none 0 0), (1, i64 (n_1 - (0 - 0)))]) [0, 1] rfl ?_
 refine Zq (Zr ?_)
 refine Zm ?_
 refine Zu (q_gtr rfl rfl) ?_
 refine Zl ?_
 refine Zc hS (fun h16 hS => ?_) (fun h16 hS => ?_)
 ·
  refine Zr ?_
  refine Zy ?_
  refine Zu (q_cap0 Tryz.underlying89 rfl) ?_
  refine Zu (q_nil0 Str Tryz.underlying89 gsz9 rfl rfl) ?_
  refine Zm ?_
  obtain ⟨b22, hS⟩ := gd_s hS
  refine VL.appZ (α := Str) (z := []) Tryz.underlying89 Tryz.underlying3 gmk9 (by decide) rfl b22.1 b22.2 (by decide) (by decide) fun s22_1 hs22_1 => ?_
  replace hS := lt_to hs22_1 hS
  refine Zm ?_
  refine Zu (q_len Tryz.underlying89 rfl) ?_
  refine VL.own0 (s := s22_1) Tryz.underlying89 gsz9 rfl rfl Fo.out (by decide) fun s25_3 hs25_3 => ?_
  replace hS := lt_to hs25_3 hS
  refine Zy ?_
  refine VC.keep (ρ' := [(0, s25_3.val)]) [0] rfl ?_
  refine Zq (Zr ?_)
  refine Zy ?_
  cases hS
  exact VC.ret (fin1 (.inr rfl) rfl rfl s25_3 rfl rfl (by (try dsimp only); exact InM.out) (by (try dsimp only); exact EntO.out))
 refine Zk ?_
 refine Zq (Zr ?_)
 refine Zy ?_
 refine VC.nilO (⟨none, 0, []⟩ : Sv Str) 9 ⟨rfl, rfl⟩ ?_
 cases hS
 exact VC.ret (fin1 (.inr rfl) rfl rfl ⟨none, 0, []⟩ rfl rfl (by (try dsimp only); exact InM.out) (by (try dsimp only); exact EntO.out))
theorem slices_Concat_string_string_ct (slices_0 : Sv (Sv Str)) {r : List Str} (hS : Sh.slices_Concat_string_string (slices_0.l.map Sv.l) = some r) :
 Ct Tryz.prog 85 [slices_0.val] slices_0.ok (Ow.emp) (X := Sv Str) (fun x => x.val) (fun x => r = x.l) (fun x => Mo.tt) (fun x => Sv.own x 9) := by
 refine Zo Tryz.func85 Tryz.ntmps85 fun c => ?_
 unfold Sh.slices_Concat_string_string at hS
 refine Zq (Zr ?_)
 refine Zy ?_
 refine Zq (Zr ?_)
 refine Zy ?_
 refine Zq (Zq (Zr ?_))
 refine Zm ?_
 refine Zu (q_lnm Sv.l (s := slices_0) Tryz.underlying279 rfl) ?_
 refine Zy ?_
 refine Zb ?_
 refine VC.iter (S := Int × Int) (fun sg => (sg.1, sg.2)) (fun sg => [(0, slices_0.val), (3, i64 sg.1), (9, slices_0.val), (10, i64 ((slices_0.l.map Sv.l).length : Int)), (11, i64 sg.2)]) (fun sg => Mo.tt) (fun sg => Ow.emp) (0, 0) [0, 3, 9, 10, 11] hS rfl ?_
 clear hS
 rintro ⟨size3_1, x11_2⟩ m1 y1 hS hK1
 refine Zq (Zr ?_)
 refine Zu (q_lss rfl rfl) ?_
 refine Zl ?_
 refine Zq ?_
 refine Zc hS (fun h12 hS => ?_) (fun h12 hS => ?_)
 ·
  refine Zk ?_
  refine Zq (Zb (Zq (Zr ?_)))
  obtain ⟨z13_3, nz13_3, hz13_3, hS⟩ := atm_s hS
  refine VL.deep z13_3.ok hz13_3 (fun _ q => q) ?_
  refine Zu (q_ixm (s := slices_0) Tryz.underlying279 gsz89 rfl rfl nz13_3 (lt_of_get nz13_3 hz13_3)) ?_
  refine Zu (q_el (s := slices_0) gone89 rfl hz13_3 rfl) ?_
  refine Zy ?_
  refine Zq (Zr ?_)
  refine Zy ?_
  refine Zu (q_ln (s := z13_3) Tryz.underlying89 rfl) ?_
  obtain ⟨b18, hS⟩ := gd_s hS
  refine Zu (q_add rfl rfl b18) ?_
  refine Zy ?_
  refine VC.keep (ρ' := [(0, slices_0.val), (3, i64 (size3_1 + (z13_3.l.length : Int))), (9, slices_0.val), (10, i64 ((slices_0.l.map Sv.l).length : Int)), (11, i64 x11_2)]) [0, 3, 9, 10, 11] rfl ?_
  refine Zq (Zr ?_)
  refine Zm ?_
  refine Zu (q_lss rfl rfl) ?_
  refine Zl ?_
  refine Zc hS (fun h20 hS => ?_) (fun h20 hS => ?_)
  ·
   refine Zr ?_
   refine Zu (q_mkif Tryz.underlying9 (fun _ h => by cases h) rfl) ?_
   cases hS
  refine Zk ?_
  refine Zr ?_
  obtain ⟨b22, hS⟩ := gd_s hS
  refine Zu (q_add rfl rfl b22) ?_
  refine Zm ?_
  refine VL.rnd ((size3_1 + (z13_3.l.length : Int)), (x11_2 + 1)) [0, 3, 9, 10, 11] (fun _ _ h => h) (go2 hS hK1) rfl
 replace hS := up2 hS hK1
 refine Zx ?_
 refine Zq (Zr ?_)
 refine Zm ?_
 obtain ⟨y24_4, ey24_4, hS⟩ := bd_s hS
 refine VL.callO (slices_Grow_string_string_ct size3_1 ey24_4) rfl (by decide) ?_
 rintro q24_4_0 rfl
 try dsimp only
 refine Zy ?_
 refine Zq (Zq (Zr ?_))
 refine Zm ?_
 refine Zu (q_lnm Sv.l (s := slices_0) Tryz.underlying279 rfl) ?_
 refine Zy ?_
 refine VC.keep (ρ' := [(6, q24_4_0.val), (25, slices_0.val), (26, i64 ((slices_0.l.map Sv.l).length : Int)), (27, i64 0)]) [6, 25, 26, 27] rfl ?_
 refine Zb ?_
 refine VC.iter (S := Sv Str × Int) (fun sg => (sg.1.l, sg.2)) (fun sg => [(6, sg.1.val), (25, slices_0.val), (26, i64 ((slices_0.l.map Sv.l).length : Int)), (27, i64 sg.2)]) (fun sg => Mo.tt) (fun sg => Ow.star (Sv.own sg.1 9) (Ow.emp)) (q24_4_0, 0) [6, 25, 26, 27] hS rfl ?_
 clear hS
 rintro ⟨newslice6_5, x27_6⟩ m1 y1 hS hK1
 refine Zq (Zr ?_)
 refine Zu (q_lss rfl rfl) ?_
 refine Zl ?_
 refine Zq ?_
 refine Zc hS (fun h28 hS => ?_) (fun h28 hS => ?_)
 ·
  refine Zk ?_
  refine Zq (Zb (Zq (Zr ?_)))
  obtain ⟨z29_7, nz29_7, hz29_7, hS⟩ := atm_s hS
  refine VL.deep z29_7.ok hz29_7 (fun _ q => q) ?_
  refine Zu (q_ixm (s := slices_0) Tryz.underlying279 gsz89 rfl rfl nz29_7 (lt_of_get nz29_7 hz29_7)) ?_
  refine Zu (q_el (s := slices_0) gone89 rfl hz29_7 rfl) ?_
  refine Zy ?_
  refine Zr ?_
  refine Zy ?_
  obtain ⟨b33, hS⟩ := gd_s hS
  refine VL.app (s := newslice6_5) (r := z29_7) Tryz.underlying89 gapp9 (by decide) rfl Fo.out (ap1 b33) (ap2 b33 (by decide)) (by decide) (fun s33_8 hs33_8 => ?_)
  replace hS := lt_to hs33_8 hS
  refine Zy ?_
  refine VC.keep (ρ' := [(6, s33_8.val), (25, slices_0.val), (26, i64 ((slices_0.l.map Sv.l).length : Int)), (27, i64 x27_6)]) [6, 25, 26, 27] rfl ?_
  refine Zr ?_
  obtain ⟨b34, hS⟩ := gd_s hS
  refine Zu (q_add rfl rfl b34) ?_
  refine Zm ?_
  refine VL.rnd (s33_8, (x27_6 + 1)) [6, 25, 26, 27] (fun _ _ h => h) (go2 hS hK1) rfl
 replace hS := up2 hS hK1
 refine Zx ?_
 refine Zq (Zr ?_)
 refine Zy ?_
 cases hS
 exact VC.ret (fin1 (.inr rfl) rfl rfl newslice6_5 rfl rfl (by (try dsimp only); exact InM.out) (by (try dsimp only); exact EntO.out))
theorem state_Weight_ct (s_0 : StateState) {r : Int × Err} (hS : Sh.state_Weight s_0.pl = some r) :
 Ct Tryz.prog 33 [.agg (zStateState s_0).toArray] (s_0.now_work.ok.and (s_0.now_index.ok.and (s_0.now_refs.ok.and (s_0.now_seq_doing.ok.and (s_0.now_seq_todo.ok.and (s_0.now_seq_index.ok.and (s_0.now_seq_work.ok.and (s_0.now_stash.ok.and (s_0.commits.ok.and (s_0.log_back.ok.and s_0.log_forth.ok)))))))))) (Ow.emp) (X := Int × Er) (fun x => .tuple #[i64 x.1, x.2.val]) (fun x => r = (x.1, x.2.pl)) (fun x => x.2.ok) (fun x => Ow.emp) := by
 refine Zo Tryz.func33 Tryz.ntmps33 fun c => ?_
 unfold Sh.state_Weight at hS
 refine Zq (Zr ?_)
 refine VL.box (cs := (zStateState s_0)) rfl rfl (by decide) fun b1_1 => ?_
 refine Zy ?_
 refine Zq (Zr ?_)
 refine VL.alloc (cs := [i64 0]) (by kernel_rfl) (by decide) fun b4_2 => ?_
 refine Zl ?_
 refine Zq (Zr ?_)
 refine Zu (q_field gfa93_0 rfl) ?_
 refine Zu (q_fep (j := 0) (n := 17) gagg61 rfl rfl rfl) ?_
 obtain ⟨y13_3, ey13_3, hS⟩ := bd_s hS
 refine VL.callO (state_scale_now_ct b4_2 (⟨0⟩ : StateScale) (⟨s_0.now_work, s_0.now_index, s_0.now_refs, s_0.now_head_branch, s_0.now_head_commit, s_0.now_seq_kind, s_0.now_seq_other, s_0.now_seq_text, s_0.now_seq_doing, s_0.now_seq_todo, s_0.now_seq_made, s_0.now_seq_branch, s_0.now_seq_head_branch, s_0.now_seq_head_commit, s_0.now_seq_index, s_0.now_seq_work, s_0.now_stash⟩ : StateNow) ey13_3) rfl (by decide) ?_
 rintro _ rfl
 try dsimp only
 refine Zl ?_
 refine Zq (Zq (Zr ?_))
 refine Zu (q_field gfa93_1 rfl) ?_
 refine Zu (q_fe gone68 rfl rfl) ?_
 refine Zu (q_lnm StateCommit.pl (s := s_0.commits) Tryz.underlying68 rfl) ?_
 refine Zy ?_
 refine VC.keep (ρ' := [(1, ptr b1_1 0), (4, ptr b4_2 0), (15, s_0.commits.val), (16, i64 ((s_0.commits.l.map StateCommit.pl).length : Int)), (17, i64 0)]) [1, 4, 15, 16, 17] rfl ?_
 refine Zb ?_
 refine VC.iter (S := Int × Int) (fun sg => (sg.1, sg.2)) (fun sg => [(1, ptr b1_1 0), (4, ptr b4_2 0), (15, s_0.commits.val), (16, i64 ((s_0.commits.l.map StateCommit.pl).length : Int)), (17, i64 sg.1)]) (fun sg => Mo.tt) (fun sg => Ow.star (Blk b4_2 [i64 sg.2] 176) (Ow.star (Blk b1_1 (zStateState s_0) 93) (Ow.emp))) (0, y13_3.n) [1, 4, 15, 16, 17] hS rfl ?_
 clear hS
 rintro ⟨x17_4, c0_5⟩ m1 y1 hS hK1
 refine Zq (Zr ?_)
 refine Zu (q_lss rfl rfl) ?_
 refine Zl ?_
 refine Zq ?_
 refine Zc hS (fun h18 hS => ?_) (fun h18 hS => ?_)
 ·
  refine Zk ?_
  refine Zq (Zb (Zq (Zr ?_)))
  obtain ⟨z19_6, nz19_6, hz19_6, hS⟩ := atm_s hS
  refine VL.deep z19_6.m hz19_6 (fun _ q => q) ?_
  refine Zu (q_ixm (s := s_0.commits) Tryz.underlying68 gsz110 rfl rfl nz19_6 (lt_of_get nz19_6 hz19_6)) ?_
  refine Zu (q_els (s := s_0.commits) gagg110 rfl rfl hz19_6) ?_
  refine VL.alloc (cs := [.slice none 0 0, .slice none 0 0, i64 0, str []]) (by kernel_rfl) (by decide) fun b6_7 => ?_
  refine Zv (vc := [z19_6.tree.val, z19_6.parents.val, i64 z19_6.time, str z19_6.text]) (cs' := [z19_6.tree.val, z19_6.parents.val, i64 z19_6.time, str z19_6.text]) rfl gsz110 ?_
  refine Zl ?_
  refine Zq (Zr ?_)
  refine Zu (q_field gfa110_3 rfl) ?_
  refine Zu (q_fe gone9 rfl rfl) ?_
  refine VL.lit (α := Str) (xs := [.tmp 22]) (vs := [str z19_6.text]) [z19_6.text] Tryz.underlying89 glit9 (by decide) rfl rfl rfl rfl (by decide) (fun _ _ _ _ => trivial) (by decide) (fun s23_8 hs23_8 => ?_) (by decide)
  replace hS := lt_to hs23_8 hS
  obtain ⟨y24_10, ey24_10, hS⟩ := bd_s hS
  refine VL.callO (state_scale_thing_ct b4_2 (⟨c0_5⟩ : StateScale) s23_8 ey24_10) rfl (by decide) ?_
  rintro _ rfl
  try dsimp only
  refine Zl ?_
  refine VC.keep (ρ' := [(1, ptr b1_1 0), (4, ptr b4_2 0), (15, s_0.commits.val), (16, i64 ((s_0.commits.l.map StateCommit.pl).length : Int)), (17, i64 x17_4), (6, ptr b6_7 0)]) [1, 4, 15, 16, 17, 6] rfl ?_
  refine Zr ?_
  refine Zu (q_field gfa110_0 rfl) ?_
  refine Zu (q_fe gone50 rfl rfl) ?_
  obtain ⟨y27_11, ey27_11, hS⟩ := bd_s hS
  refine VL.callO (state_scale_row_ct b4_2 y24_10 z19_6.tree ey27_11) rfl (by decide) ?_
  rintro _ rfl
  try dsimp only
  refine Zl ?_
  refine Zr ?_
  obtain ⟨b28, hS⟩ := gd_s hS
  refine Zu (q_add rfl rfl b28) ?_
  refine Zm ?_
  refine VL.rnd ((x17_4 + 1), y27_11.n) [1, 4, 15, 16, 17] (fun _ _ h => h) (go2 hS hK1) rfl
 replace hS := up2 hS hK1
 refine Zx ?_
 refine Zq (Zq (Zr ?_))
 refine Zu (q_field gfa93_2 rfl) ?_
 refine Zu (q_field gfa91_0 rfl) ?_
 refine Zu (q_fe gone89 rfl rfl) ?_
 refine Zu (q_field gfa93_2 rfl) ?_
 refine Zu (q_field gfa91_1 rfl) ?_
 refine Zu (q_fe gone89 rfl rfl) ?_
 refine VL.lit (α := Sv Str) (xs := [.tmp 31, .tmp 34]) (vs := [s_0.log_back.val, s_0.log_forth.val]) [s_0.log_back, s_0.log_forth] Tryz.underlying279 glit89 (by decide) rfl rfl rfl rfl (by decide) (fun h m => List.forall_mem_cons.2 ⟨InM.out (X := s_0.log_back.ok) h m, List.forall_mem_cons.2 ⟨InM.out (X := s_0.log_forth.ok) h m, fun _ h => by cases h⟩⟩) (by decide) (fun s35_12 hs35_12 => ?_) (by decide)
 replace hS := lt_to (congrArg (List.map Sv.l) hs35_12) hS
 obtain ⟨y36_14, ey36_14, hS⟩ := bd_s hS
 refine VL.callO (slices_Concat_string_string_ct s35_12 ey36_14) rfl (by decide) ?_
 rintro q36_14_0 rfl
 try dsimp only
 refine Zu (q_ln (s := q36_14_0) Tryz.underlying89 rfl) ?_
 refine Zy ?_
 refine VC.keep (ρ' := [(4, ptr b4_2 0), (36, q36_14_0.val), (37, i64 (q36_14_0.l.length : Int)), (38, i64 0)]) [4, 36, 37, 38] rfl ?_
 refine Zb ?_
 refine VC.iter (S := Int × Int) (fun sg => (sg.1, sg.2)) (fun sg => [(4, ptr b4_2 0), (36, q36_14_0.val), (37, i64 (q36_14_0.l.length : Int)), (38, i64 sg.1)]) (fun sg => Mo.tt) (fun sg => Ow.star (Blk b4_2 [i64 sg.2] 176) (Ow.star (Blk b1_1 (zStateState s_0) 93) (Ow.star (Sv.own q36_14_0 9) (Ow.emp)))) (0, c0_5) [4, 36, 37, 38] hS rfl ?_
 clear hS
 rintro ⟨x38_15, c0_16⟩ m1 y1 hS hK1
 refine Zq (Zr ?_)
 refine Zu (q_lss rfl rfl) ?_
 refine Zl ?_
 refine Zq ?_
 refine Zc hS (fun h39 hS => ?_) (fun h39 hS => ?_)
 ·
  refine Zk ?_
  refine Zq (Zb (Zq (Zr ?_)))
  obtain ⟨z40_17, nz40_17, hz40_17, hS⟩ := at_s hS
  refine Zu (q_ixo (s := q36_14_0) Tryz.underlying89 gsz9 rfl rfl nz40_17 (lt_of_get nz40_17 hz40_17)) ?_
  refine Zu (q_elo (s := q36_14_0) 9 gone9 rfl hz40_17 rfl) ?_
  refine Zy ?_
  refine Zq (Zr ?_)
  refine Zm ?_
  obtain ⟨y44_18, ey44_18, hS⟩ := bd_s hS
  refine VL.callF (state_Unmark_ct z40_17 ey44_18) rfl (by decide) ?_
  rintro ⟨q44_18_0, q44_18_1⟩ rfl
  try dsimp only
  refine Zm ?_
  refine Zu (q_extract rfl rfl) ?_
  refine Zu (q_extract rfl rfl) ?_
  refine VL.alloc (cs := [.slice none 0 0, .slice none 0 0, .slice none 0 0, str [], i64 0, str [], i64 0, str [], .slice none 0 0, .slice none 0 0, i64 0, str [], str [], i64 0, .slice none 0 0, .slice none 0 0, .slice none 0 0]) (by kernel_rfl) (by decide) fun b9_19 => ?_
  refine Zv (vc := [q44_18_0.work.val, q44_18_0.index.val, q44_18_0.refs.val, str q44_18_0.head_branch, i64 q44_18_0.head_commit, str q44_18_0.seq_kind, i64 q44_18_0.seq_other, str q44_18_0.seq_text, q44_18_0.seq_doing.val, q44_18_0.seq_todo.val, i64 q44_18_0.seq_made, str q44_18_0.seq_branch, str q44_18_0.seq_head_branch, i64 q44_18_0.seq_head_commit, q44_18_0.seq_index.val, q44_18_0.seq_work.val, q44_18_0.stash.val]) (cs' := [q44_18_0.work.val, q44_18_0.index.val, q44_18_0.refs.val, str q44_18_0.head_branch, i64 q44_18_0.head_commit, str q44_18_0.seq_kind, i64 q44_18_0.seq_other, str q44_18_0.seq_text, q44_18_0.seq_doing.val, q44_18_0.seq_todo.val, i64 q44_18_0.seq_made, str q44_18_0.seq_branch, str q44_18_0.seq_head_branch, i64 q44_18_0.seq_head_commit, q44_18_0.seq_index.val, q44_18_0.seq_work.val, q44_18_0.stash.val]) rfl gsz61 ?_
  refine Zy ?_
  refine VC.keep (ρ' := [(4, ptr b4_2 0), (36, q36_14_0.val), (37, i64 (q36_14_0.l.length : Int)), (38, i64 x38_15), (9, ptr b9_19 0), (10, q44_18_1.val)]) [4, 36, 37, 38, 9, 10] rfl ?_
  refine Zq (Zq (Zr ?_))
  refine Zm ?_
  refine Zu (q_erne Tryz.underlying26 rfl) ?_
  refine Zl ?_
  refine Zcn hS (fun h48 hS => ?_) (fun h48 hS => ?_)
  ·
   refine Zq (Zr ?_)
   refine Zy ?_
   refine VC.keep (ρ' := [(2, i64 0), (3, q44_18_1.val)]) [2, 3] rfl ?_
   replace hS := up2 hS hK1
   cases hS
   exact VC.ret (fin2 (.inr rfl) rfl rfl rfl (0, q44_18_1) rfl rfl (by (try dsimp only); exact InM.out) (fun _ _ => trivial))
  refine Zk ?_
  refine Zq (Zr ?_)
  obtain ⟨y50_20, ey50_20, hS⟩ := bd_s hS
  refine VL.callO (state_scale_thing_ct b4_2 (⟨c0_16⟩ : StateScale) ⟨none, 0, []⟩ ey50_20) rfl (by decide) ?_
  rintro _ rfl
  try dsimp only
  refine Zl ?_
  refine Zr ?_
  refine Zu (q_fes gagg61 rfl rfl) ?_
  obtain ⟨y52_21, ey52_21, hS⟩ := bd_s hS
  refine VL.callO (state_scale_now_ct b4_2 y50_20 q44_18_0 ey52_21) rfl (by decide) ?_
  rintro _ rfl
  try dsimp only
  refine Zl ?_
  refine VC.keep (ρ' := [(4, ptr b4_2 0), (36, q36_14_0.val), (37, i64 (q36_14_0.l.length : Int)), (38, i64 x38_15)]) [4, 36, 37, 38] rfl ?_
  refine Zr ?_
  obtain ⟨b53, hS⟩ := gd_s hS
  refine Zu (q_add rfl rfl b53) ?_
  refine Zm ?_
  refine VL.rnd ((x38_15 + 1), y52_21.n) [4, 36, 37, 38] (fun _ _ h => h) (go2 hS hK1) rfl
 replace hS := up2 hS hK1
 refine Zx ?_
 refine Zq (Zr ?_)
 refine Zu (q_field gfa176_0 rfl) ?_
 refine Zu (q_fe gone3 rfl rfl) ?_
 refine Zy ?_
 cases hS
 exact VC.ret (fin2 (.inr rfl) rfl rfl rfl (c0_16, .nil) rfl rfl (by (try dsimp only); exact InM.out) (fun _ _ => trivial))
end Go.Proofs.YthbccdlpalenlaaGreatDoor
end
