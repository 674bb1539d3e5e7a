/- Part of the proofs of: Bytes, files, words up to their ends; one more is too long: each number about an end, looked at by the kernel. -/
import Derived.Test.YtipnlckfohhkbaaGreatDoorOC
set_option linter.unusedVariables false
set_option linter.unusedSimpArgs false
set_option linter.unusedSectionVars false
section
set_option linter.unusedVariables false
namespace Go.Proofs.YtipnlckfohhkbaaGreatDoor
open Go.RowKit Go.V
open Go.S hiding Str
set_option maxHeartbeats 4000000 in
set_option maxRecDepth 100000 in
theorem codec_Dec_Text_ct (d_0_b : Nat) (d_0 : CodecDec) {r : Str × CodecDecP} (hS : Sh.codec_Dec_Text d_0.pl = some r) :
    Ct Tryz.prog 150 [ptr d_0_b 0] (d_0.b.ok.and d_0.err.ok) (Blk d_0_b [d_0.b.val, i64 d_0.at_, d_0.err.val] 244) (X := Str × CodecDec) (fun x => str x.1) (fun x => r = (x.1, x.2.pl)) (fun x => (x.2.b.ok.and x.2.err.ok)) (fun x => Blk d_0_b [x.2.b.val, i64 x.2.at_, x.2.err.val] 244) := by
  refine Ct.of Tryz.func150 rfl (by kernel_rfl) Tryz.ntmps150 (by simp) fun c => ?_
  unfold Sh.codec_Dec_Text at hS
  refine VC.seq ?_
  refine VC.region ?_
  refine VL.q (q_assign rfl) (by decide) ?_
  refine VL.to (fun _ _ h => h) ?_
  refine VC.seq ?_
  refine VC.region ?_
  refine VL.q (q_move rfl) (by decide) ?_
  refine VL.q (q_nilCheck rfl) (by decide) ?_
  refine VL.q (q_field gfa244_1 rfl) (by decide) ?_
  refine VL.q (q_fe gone3 rfl rfl) (by decide) ?_
  refine VL.q (q_assign rfl) (by decide) ?_
  refine VL.to (fun _ _ h => h) ?_
  refine VC.seq ?_
  refine VC.region ?_
  refine VL.q (q_move rfl) (by decide) ?_
  obtain ⟨y11_1, ey11_1, hS⟩ := bd_s hS
  refine VL.callO (codec_Dec_Int_ct d_0_b d_0 ey11_1) rfl (by decide) ?_
  rintro ⟨q11_1_0, q11_1_1⟩ rfl
  try dsimp only
  refine VL.q (q_assign rfl) (by decide) ?_
  refine VL.to (fun _ _ h => h) ?_
  refine VC.seq ?_
  refine VC.block ?_
  refine VC.seq ?_
  refine VC.region ?_
  refine VL.q (q_move rfl) (by decide) ?_
  refine VL.q (q_nilCheck rfl) (by decide) ?_
  refine VL.q (q_field gfa244_2 rfl) (by decide) ?_
  refine VL.q (q_fe gone38 rfl rfl) (by decide) ?_
  refine VL.q (q_erne Tryz.underlying38 rfl) (by decide) ?_
  refine VL.q (q_assign rfl) (by decide) ?_
  refine VL.to (fun _ _ h => h) ?_
  refine VC.keep [0, 3, 4, 12] rfl ?_
  refine VC.cond_ndec rfl (fun h12 => ?_) (fun h12 => ?_)
  ·
    replace hS := it_f h12 hS
    refine VC.seq ?_
    refine VC.region ?_
    refine VL.q (q_assign rfl) (by decide) ?_
    refine VL.to (fun _ _ h => h) ?_
    cases hS
    exact VC.ret (fin1 (.inr rfl) rfl rfl ([], ⟨q11_1_1.b, q11_1_1.at_, q11_1_1.err⟩) rfl rfl (by (try dsimp only); exact InM.out) (by (try dsimp only); exact EntO.out))
  ·
    replace hS := it_t h12 hS
    refine VC.seq ?_
    refine VC.region ?_
    refine VL.q (q_move rfl) (by decide) ?_
    refine VL.q (q_lss rfl rfl) (by decide) ?_
    refine VL.q (q_assign rfl) (by decide) ?_
    refine VL.to (fun _ _ h => h) ?_
    refine VC.cond_dec rfl (fun h18 => ?_) (fun h18 => ?_)
    ·
      replace hS := it_t h18 hS
      refine VC.seq ?_
      refine VC.region ?_
      refine VL.q (q_move rfl) (by decide) ?_
      refine VL.q (q_move rfl) (by decide) ?_
      obtain ⟨y23_2, ey23_2, hS⟩ := bd_s hS
      refine VL.callO (codec_Dec_fail_ct d_0_b q11_1_1 d_0.at_ 2 ey23_2) rfl (by decide) ?_
      rintro q23_2_0 rfl
      try dsimp only
      refine VL.to (fun _ _ h => h) ?_
      refine VC.seq ?_
      refine VC.region ?_
      refine VL.q (q_assign rfl) (by decide) ?_
      refine VL.to (fun _ _ h => h) ?_
      refine VC.keep [2] rfl ?_
      cases hS
      exact VC.ret (fin1 (.inr rfl) rfl rfl ([], ⟨q23_2_0.b, q23_2_0.at_, q23_2_0.err⟩) rfl rfl (by (try dsimp only); exact InM.out) (by (try dsimp only); exact EntO.out))
    ·
      replace hS := it_f h18 hS
      refine VC.seq ?_
      refine VC.draw ((List.range 13).map fun k => (k, true)) mixed (by kernel_rfl) (by kernel_rfl) (by kernel_rfl) ?_
      refine VD.q rfl (q_move rfl) (by decide) ?_
      refine VD.q rfl (q_move rfl) (by decide) ?_
      refine VD.q rfl (q_nilCheck rfl) (by decide) ?_
      refine VD.q rfl (q_field gfa244_0 rfl) (by decide) ?_
      refine VD.q rfl (q_fe gone23 rfl rfl) (by decide) ?_
      refine VD.q rfl (q_ln (s := q11_1_1.b) Tryz.underlying23 rfl) (by decide) ?_
      refine VD.q rfl (q_move rfl) (by decide) ?_
      refine VD.q rfl (q_nilCheck rfl) (by decide) ?_
      refine VD.q rfl (q_field gfa244_1 rfl) (by decide) ?_
      refine VD.q rfl (q_fe gone3 rfl rfl) (by decide) ?_
      obtain ⟨b35, hS⟩ := gd_s hS
      refine VD.q rfl (q_sub rfl rfl b35) (by decide) ?_
      refine VD.q rfl (q_gtr rfl rfl) (by decide) ?_
      refine VD.q rfl (q_assign rfl) (by decide) ?_
      refine VD.to (fun _ _ h => h) ?_
      refine VC.keep [0, 3, 4, 24] rfl ?_
      refine VC.cond_dec rfl (fun h24 => ?_) (fun h24 => ?_)
      ·
        replace hS := it_t h24 hS
        refine VC.seq ?_
        refine VC.region ?_
        refine VL.q (q_move rfl) (by decide) ?_
        refine VL.q (q_move rfl) (by decide) ?_
        obtain ⟨y39_3, ey39_3, hS⟩ := bd_s hS
        refine VL.callO (codec_Dec_fail_ct d_0_b q11_1_1 d_0.at_ 3 ey39_3) rfl (by decide) ?_
        rintro q39_3_0 rfl
        try dsimp only
        refine VL.to (fun _ _ h => h) ?_
        refine VC.seq ?_
        refine VC.region ?_
        refine VL.q (q_assign rfl) (by decide) ?_
        refine VL.to (fun _ _ h => h) ?_
        cases hS
        exact VC.ret (fin1 (.inr rfl) rfl rfl ([], ⟨q39_3_0.b, q39_3_0.at_, q39_3_0.err⟩) rfl rfl (by (try dsimp only); exact InM.out) (by (try dsimp only); exact EntO.out))
      ·
        replace hS := it_f h24 hS
        refine VC.skip_to (fun _ _ h => h) ?_
        refine VC.seq ?_
        refine VC.draw ((List.range 17).map fun k => (k, true)) mixed (by kernel_rfl) (by kernel_rfl) (by kernel_rfl) ?_
        refine VD.q rfl (q_move rfl) (by decide) ?_
        refine VD.q rfl (q_nilCheck rfl) (by decide) ?_
        refine VD.q rfl (q_field gfa244_0 rfl) (by decide) ?_
        refine VD.q rfl (q_fe gone23 rfl rfl) (by decide) ?_
        refine VD.q rfl (q_move rfl) (by decide) ?_
        refine VD.q rfl (q_nilCheck rfl) (by decide) ?_
        refine VD.q rfl (q_field gfa244_1 rfl) (by decide) ?_
        refine VD.q rfl (q_fe gone3 rfl rfl) (by decide) ?_
        refine VD.q rfl (q_move rfl) (by decide) ?_
        refine VD.q rfl (q_nilCheck rfl) (by decide) ?_
        refine VD.q rfl (q_field gfa244_1 rfl) (by decide) ?_
        refine VD.q rfl (q_fe gone3 rfl rfl) (by decide) ?_
        refine VD.q rfl (q_move rfl) (by decide) ?_
        obtain ⟨b53, hS⟩ := gd_s hS
        refine VD.q rfl (q_add rfl rfl b53) (by decide) ?_
        obtain ⟨b54, hS⟩ := gd_s hS
        refine VD.smidK rfl Tryz.underlying23 gsz5 rfl rfl rfl b54.1 b54.2.1 (b54.2.2) (by decide) fun s54_4 hs54_4 Qs54_4 => ?_
        replace hS := lt_to hs54_4 hS
        refine VD.q rfl (q_b2s (s := s54_4) Tryz.underlying23 Tryz.underlying5 Tryz.underlying9 rfl) (by decide) ?_
        refine VD.q rfl (q_assign rfl) (by decide) ?_
        refine VD.to (fun _ _ h => h) ?_
        refine VC.keep [0, 4, 5] rfl ?_
        refine VC.seq ?_
        refine VC.region ?_
        refine VL.q (q_move rfl) (by decide) ?_
        refine VL.q (q_nilCheck rfl) (by decide) ?_
        refine VL.q (q_field gfa244_1 rfl) (by decide) ?_
        refine VL.q (q_fe gone3 rfl rfl) (by decide) ?_
        refine VL.q (q_move rfl) (by decide) ?_
        obtain ⟨b61, hS⟩ := gd_s hS
        refine VL.q (q_add rfl rfl b61) (by decide) ?_
        refine VL.q (q_nilCheck rfl) (by decide) ?_
        refine VL.q (q_field gfa244_1 rfl) (by decide) ?_
        refine VL.store (vc := [i64 (q11_1_1.at_ + q11_1_0)]) (cs' := [q11_1_1.b.val, i64 (q11_1_1.at_ + q11_1_0), q11_1_1.err.val]) rfl rfl rfl gsz3 rfl rfl (Nat.le_of_ble_eq_true rfl) rfl ?_
        refine VL.to (fun _ _ h => h) ?_
        refine VC.keep [5] rfl ?_
        refine VC.seq ?_
        refine VC.region ?_
        refine VL.q (q_move rfl) (by decide) ?_
        refine VL.q (q_assign rfl) (by decide) ?_
        refine VL.to (fun _ _ h => h) ?_
        cases hS
        exact VC.ret (fin1 (.inr rfl) rfl rfl (s54_4.l, ⟨q11_1_1.b, (q11_1_1.at_ + q11_1_0), q11_1_1.err⟩) rfl rfl (by (try dsimp only); exact InM.out) (by (try dsimp only); exact EntO.out))

set_option maxHeartbeats 4000000 in
set_option maxRecDepth 100000 in
theorem object_reader_many_ct (r_0_b : Nat) (r_0 : ObjectReader) (r_0_dec_b : Nat) (r_0_dec : CodecDec) {r : Int × CodecDecP × ObjectReader} (hS : Sh.object_reader_many r_0 r_0_dec.pl = some r) :
    Ct Tryz.prog 227 [ptr r_0_b 0] (r_0_dec.b.ok.and r_0_dec.err.ok) (Ow.star (Blk r_0_dec_b [r_0_dec.b.val, i64 r_0_dec.at_, r_0_dec.err.val] 244) (Blk r_0_b [ptr r_0_dec_b 0, .bool r_0.bad] 178)) (X := Int × CodecDec × ObjectReader) (fun x => i64 x.1) (fun x => r = (x.1, x.2.1.pl, x.2.2)) (fun x => (x.2.1.b.ok.and x.2.1.err.ok)) (fun x => Ow.star (Blk r_0_dec_b [x.2.1.b.val, i64 x.2.1.at_, x.2.1.err.val] 244) (Blk r_0_b [ptr r_0_dec_b 0, .bool x.2.2.bad] 178)) := by
  refine Ct.of Tryz.func227 rfl (by kernel_rfl) Tryz.ntmps227 (by simp) fun c => ?_
  unfold Sh.object_reader_many at hS
  refine VC.seq ?_
  refine VC.region ?_
  refine VL.q (q_assign rfl) (by decide) ?_
  refine VL.to (fun _ _ h => h) ?_
  refine VC.seq ?_
  refine VC.region ?_
  refine VL.q (q_move rfl) (by decide) ?_
  refine VL.q (q_nilCheck rfl) (by decide) ?_
  refine VL.q (q_field gfa178_0 rfl) (by decide) ?_
  refine VL.q (q_fe gone175 rfl rfl) (by decide) ?_
  obtain ⟨y8_1, ey8_1, hS⟩ := bd_s hS
  refine VL.callO (codec_Dec_Int_ct r_0_dec_b r_0_dec ey8_1) rfl (by decide) ?_
  rintro ⟨q8_1_0, q8_1_1⟩ rfl
  try dsimp only
  refine VL.q (q_assign rfl) (by decide) ?_
  refine VL.to (fun _ _ h => h) ?_
  refine VC.seq ?_
  refine VC.cutJ (S := Bool) (fun (x14_2 : Bool) => x14_2) (fun (x14_2 : Bool) => [(0, ptr r_0_b 0), (3, i64 q8_1_0), (14, .bool x14_2)]) (fun (x14_2 : Bool) => Mo.tt) (fun (x14_2 : Bool) => Ow.star (Blk r_0_dec_b [q8_1_1.b.val, i64 q8_1_1.at_, q8_1_1.err.val] 244) (Ow.star (Blk r_0_b [ptr r_0_dec_b 0, .bool r_0.bad] 178) (Ow.emp))) hS ?_ ?_
  · -- up to where ways meet
    clear hS
    intro k3 hS
    refine VC.region ?_
    refine VL.q (q_move rfl) (by decide) ?_
    refine VL.q (q_lss rfl rfl) (by decide) ?_
    refine VL.q (q_move rfl) (by decide) ?_
    refine VL.split_dec 11 rfl (fun h11 => ?_) (fun h11 => ?_)
    ·
      replace hS := it_t h11 hS
      refine VL.gn rfl rfl rfl (by decide) ?_
      refine VL.gn rfl rfl rfl (by decide) ?_
      refine VL.q (q_pick_t rfl rfl) (by decide) ?_
      refine VL.mt true [0, 3, 14] (fun _ _ h => h) hS rfl
    ·
      replace hS := it_f h11 hS
      refine VL.gy rfl rfl (q_move rfl) (by decide) ?_
      refine VL.gy rfl rfl (q_gtr rfl rfl) (by decide) ?_
      refine VL.q (q_pick_f rfl rfl) (by decide) ?_
      refine VL.mt (decide (64 < q8_1_0)) [0, 3, 14] (fun _ _ h => h) hS rfl
  · -- from there
    clear hS
    rintro x14_2 hS
    show VC _ _ _ _ _ [(0, ptr r_0_b 0), (3, i64 q8_1_0), (14, .bool x14_2)] (Mo.and Mo.tt _) (Ow.star (Blk r_0_dec_b [q8_1_1.b.val, i64 q8_1_1.at_, q8_1_1.err.val] 244) (Ow.star (Blk r_0_b [ptr r_0_dec_b 0, .bool r_0.bad] 178) (Ow.emp)))
    refine VC.cond rfl (fun h14 => ?_) (fun h14 => ?_)
    ·
      replace hS := it_t h14 hS
      refine VC.seq ?_
      refine VC.region ?_
      refine VL.q (q_move rfl) (by decide) ?_
      refine VL.q (q_nilCheck rfl) (by decide) ?_
      refine VL.q (q_field gfa178_1 rfl) (by decide) ?_
      refine VL.store (vc := [.bool true]) (cs' := [ptr r_0_dec_b 0, .bool true]) rfl rfl rfl gsz4 rfl rfl (Nat.le_of_ble_eq_true rfl) rfl ?_
      refine VL.to (fun _ _ h => h) ?_
      refine VC.seq ?_
      refine VC.region ?_
      refine VL.q (q_assign rfl) (by decide) ?_
      refine VL.to (fun _ _ h => h) ?_
      cases hS
      exact VC.ret (fin1 (.inr rfl) rfl rfl (0, ⟨q8_1_1.b, q8_1_1.at_, q8_1_1.err⟩, ⟨true⟩) rfl rfl (by (try dsimp only); exact InM.out) (by (try dsimp only); exact EntO.out))
    ·
      replace hS := it_b h14 hS
      refine VC.skip_to (fun _ _ h => h) ?_
      refine VC.seq ?_
      refine VC.region ?_
      refine VL.q (q_move rfl) (by decide) ?_
      refine VL.q (q_assign rfl) (by decide) ?_
      refine VL.to (fun _ _ h => h) ?_
      cases hS
      exact VC.ret (fin1 (.inr rfl) rfl rfl (q8_1_0, ⟨q8_1_1.b, q8_1_1.at_, q8_1_1.err⟩, ⟨r_0.bad⟩) rfl rfl (by (try dsimp only); exact InM.out) (by (try dsimp only); exact EntO.out))

set_option maxHeartbeats 4000000 in
set_option maxRecDepth 100000 in
theorem slices_Clip_object_Item_object_Item_ct (s_0 : Sv ObjectItem) {r : List ObjectItem} (hS : Sh.slices_Clip_object_Item_object_Item s_0.l = some r) :
    Ct Tryz.prog 153 [s_0.val] s_0.ok (Ow.emp) (X := Sv ObjectItem) (fun x => x.val) (fun x => r = x.l) (fun x => x.ok) (fun x => Ow.emp) := by
  refine Ct.of Tryz.func153 rfl (by kernel_rfl) Tryz.ntmps153 (by simp) fun c => ?_
  unfold Sh.slices_Clip_object_Item_object_Item at hS
  refine VC.seq ?_
  refine VC.region ?_
  refine VL.q (q_assign rfl) (by decide) ?_
  refine VL.to (fun _ _ h => h) ?_
  refine VC.seq ?_
  refine VC.region ?_
  refine VL.q (q_move rfl) (by decide) ?_
  refine VL.q (q_move rfl) (by decide) ?_
  refine VL.q (q_ln (s := s_0) Tryz.underlying24 rfl) (by decide) ?_
  refine VL.q (q_move rfl) (by decide) ?_
  refine VL.q (q_ln (s := s_0) Tryz.underlying24 rfl) (by decide) ?_
  obtain ⟨b8, hS⟩ := gd_s hS
  refine VL.stom Tryz.underlying24 gsz29 rfl rfl rfl b8.1 (b8.2) (by decide) fun s8_1 hs8_1 => ?_
  replace hS := lt_to hs8_1 hS
  refine VL.q (q_assign rfl) (by decide) ?_
  refine VL.to (fun _ _ h => h) ?_
  cases hS
  exact VC.ret (fin1 (.inr rfl) rfl rfl s8_1 rfl rfl (by (try dsimp only); exact InM.out) (fun _ _ => trivial))

set_option maxHeartbeats 4000000 in
set_option maxRecDepth 100000 in
theorem object_reader_items_ct (r_0_b : Nat) (r_0 : ObjectReader) (r_0_dec_b : Nat) (r_0_dec : CodecDec) {r : List ObjectItem × CodecDecP × ObjectReader} (hS : Sh.object_reader_items r_0 r_0_dec.pl = some r) :
    Ct Tryz.prog 178 [ptr r_0_b 0] (r_0_dec.b.ok.and r_0_dec.err.ok) (Ow.star (Blk r_0_dec_b [r_0_dec.b.val, i64 r_0_dec.at_, r_0_dec.err.val] 244) (Blk r_0_b [ptr r_0_dec_b 0, .bool r_0.bad] 178)) (X := Sv ObjectItem × CodecDec × ObjectReader) (fun x => x.1.val) (fun x => r = (x.1.l, x.2.1.pl, x.2.2)) (fun x => (x.1.ok.and (x.2.1.b.ok.and x.2.1.err.ok))) (fun x => Ow.star (Blk r_0_dec_b [x.2.1.b.val, i64 x.2.1.at_, x.2.1.err.val] 244) (Blk r_0_b [ptr r_0_dec_b 0, .bool x.2.2.bad] 178)) := by
  refine Ct.of Tryz.func178 rfl (by kernel_rfl) Tryz.ntmps178 (by simp) fun c => ?_
  unfold Sh.object_reader_items at hS
  refine VC.seq ?_
  refine VC.region ?_
  refine VL.q (q_assign rfl) (by decide) ?_
  refine VL.to (fun _ _ h => h) ?_
  refine VC.seq ?_
  refine VC.region ?_
  refine VL.q (q_assign rfl) (by decide) ?_
  refine VL.to (fun _ _ h => h) ?_
  refine VC.seq ?_
  refine VC.seq ?_
  refine VC.region ?_
  refine VL.q (q_move rfl) (by decide) ?_
  obtain ⟨y5_1, ey5_1, hS⟩ := bd_s hS
  refine VL.callO (object_reader_many_ct r_0_b r_0 r_0_dec_b r_0_dec ey5_1) rfl (by decide) ?_
  rintro ⟨q5_1_0, q5_1_1, q5_1_2⟩ rfl
  try dsimp only
  refine VL.q (q_move rfl) (by decide) ?_
  refine VL.to (fun _ _ h => h) ?_
  refine VC.block ?_
  refine VC.nilO (⟨none, 0, []⟩ : Sv ObjectItem) 29 ⟨rfl, rfl⟩ ?_
  refine VC.iter (S := Sv ObjectItem × Int × Sv UInt8 × Int × Er) (fun sg => (sg.1.l, sg.2.1, sg.2.2.1.l, sg.2.2.2.1, sg.2.2.2.2.pl)) (fun sg => [(0, ptr r_0_b 0), (3, sg.1.val), (5, i64 q5_1_0), (6, i64 sg.2.1)]) (fun sg => (sg.2.2.1.ok.and sg.2.2.2.2.ok)) (fun sg => Ow.star (Blk r_0_b [ptr r_0_dec_b 0, .bool q5_1_2.bad] 178) (Ow.star (Blk r_0_dec_b [sg.2.2.1.val, i64 sg.2.2.2.1, sg.2.2.2.2.val] 244) (Ow.star (Sv.own sg.1 29) (Ow.emp)))) (⟨none, 0, []⟩, 0, q5_1_1.b, q5_1_1.at_, q5_1_1.err) [0, 3, 5, 6] hS rfl ?_
  clear hS
  rintro ⟨out3_2, x6_3, c0_4, c1_5, c2_6⟩ m1 y1 hS hK1
  show VC _ _ _ _ _ [(0, ptr r_0_b 0), (3, out3_2.val), (5, i64 q5_1_0), (6, i64 x6_3)] (Mo.and (c0_4.ok.and c2_6.ok) _) (Ow.star (Blk r_0_b [ptr r_0_dec_b 0, .bool q5_1_2.bad] 178) (Ow.star (Blk r_0_dec_b [c0_4.val, i64 c1_5, c2_6.val] 244) (Ow.star (Sv.own out3_2 29) (Ow.emp))))
  refine VC.seq ?_
  refine VC.region ?_
  refine VL.q (q_lss rfl rfl) (by decide) ?_
  refine VL.to (fun _ _ h => h) ?_
  refine VC.seq ?_
  refine VC.cond_dec rfl (fun h7 => ?_) (fun h7 => ?_)
  ·
    replace hS := it_t h7 hS
    refine VC.skip_to (fun _ _ h => h) ?_
    refine VC.seq ?_
    refine VC.block ?_
    refine VC.draw [(0, true), (1, true), (2, true), (3, true), (4, true), (6, true), (7, true), (8, true), (9, true), (11, true), (12, true), (13, true), (14, true), (5, false), (10, false), (15, false), (16, true), (17, false), (18, false), (19, true)] mixed (by kernel_rfl) (by kernel_rfl) (by kernel_rfl) ?_
    refine VD.q rfl (q_move rfl) (by decide) ?_
    refine VD.q rfl (q_move rfl) (by decide) ?_
    refine VD.q rfl (q_nilCheck rfl) (by decide) ?_
    refine VD.q rfl (q_field gfa178_0 rfl) (by decide) ?_
    refine VD.q rfl (q_fe gone175 rfl rfl) (by decide) ?_
    refine VD.q rfl (q_move rfl) (by decide) ?_
    refine VD.q rfl (q_nilCheck rfl) (by decide) ?_
    refine VD.q rfl (q_field gfa178_0 rfl) (by decide) ?_
    refine VD.q rfl (q_fe gone175 rfl rfl) (by decide) ?_
    refine VD.q rfl (q_move rfl) (by decide) ?_
    refine VD.q rfl (q_nilCheck rfl) (by decide) ?_
    refine VD.q rfl (q_field gfa178_0 rfl) (by decide) ?_
    refine VD.q rfl (q_fe gone175 rfl rfl) (by decide) ?_
    refine VD.one rfl ?_
    obtain ⟨y13_7, ey13_7, hS⟩ := bd_s hS
    refine VL.callO (codec_Dec_Text_ct r_0_dec_b (⟨c0_4, c1_5, c2_6⟩ : CodecDec) ey13_7) rfl (by decide) ?_
    rintro ⟨q13_7_0, q13_7_1⟩ rfl
    try dsimp only
    refine VL.back (D' := [(14, ptr r_0_dec_b 0), (13, ptr r_0_b 0), (12, ptr r_0_b 0), (9, ptr r_0_dec_b 0), (8, ptr r_0_b 0), (7, ptr r_0_b 0)]) (by kernel_rfl) (Pend.cons rfl (q_fe gone175 rfl rfl) (Pend.cons rfl (q_field gfa178_0 rfl) (Pend.cons rfl (q_nilCheck rfl) (Pend.cons rfl (q_fe gone175 rfl rfl) (Pend.cons rfl (q_field gfa178_0 rfl) (Pend.cons rfl (q_nilCheck rfl) (Pend.nil))))))) ?_
    refine VD.one rfl ?_
    obtain ⟨y18_8, ey18_8, hS⟩ := bd_s hS
    refine VL.callO (codec_Dec_Int_ct r_0_dec_b q13_7_1 ey18_8) rfl (by decide) ?_
    rintro ⟨q18_8_0, q18_8_1⟩ rfl
    try dsimp only
    refine VL.back (D' := [(14, ptr r_0_dec_b 0), (13, ptr r_0_b 0), (12, ptr r_0_b 0)]) (by kernel_rfl) (Pend.cons rfl (q_fe gone175 rfl rfl) (Pend.cons rfl (q_field gfa178_0 rfl) (Pend.cons rfl (q_nilCheck rfl) (Pend.nil)))) ?_
    refine VD.one rfl ?_
    obtain ⟨y23_9, ey23_9, hS⟩ := bd_s hS
    refine VL.callO (codec_Dec_Int_ct r_0_dec_b q18_8_1 ey23_9) rfl (by decide) ?_
    rintro ⟨q23_9_0, q23_9_1⟩ rfl
    try dsimp only
    refine VL.back (D' := []) (by kernel_rfl) (Pend.nil) ?_
    refine VD.q rfl (q_build (vs := [(0, str q13_7_0), (1, i64 q18_8_0), (2, i64 q23_9_0)]) (cs := #[str q13_7_0, i64 q18_8_0, i64 q23_9_0]) rfl (by kernel_rfl)) (by decide) ?_
    refine VD.one rfl ?_
    refine VL.lit (α := ObjectItem) (xs := [.tmp 24]) (vs := [.agg #[str q13_7_0, i64 q18_8_0, i64 q23_9_0]]) [⟨q13_7_0, q18_8_0, q23_9_0⟩] Tryz.underlying24 glit29 (by decide) rfl rfl rfl rfl (by decide) (fun _ _ _ _ => trivial) (by decide) (fun s25_10 hs25_10 => ?_) (by decide)
    replace hS := lt_to hs25_10 hS
    refine VL.back (D' := []) (by kernel_rfl) (Pend.nil) ?_
    refine VD.one rfl ?_
    obtain ⟨b26, hS⟩ := gd_s hS
    refine VL.app (s := out3_2) (r := s25_10) Tryz.underlying24 gapp29 (by decide) rfl Fo.out (ap1 b26) (ap2 b26 (by decide)) (by decide) (fun s26_12 hs26_12 => ?_)
    replace hS := lt_to hs26_12 hS
    refine VL.back (D' := []) (by kernel_rfl) (Pend.nil) ?_
    refine VD.q rfl (q_assign rfl) (by decide) ?_
    refine VD.to (fun _ _ h => h) ?_
    refine VC.keep [0, 3, 5, 6] rfl ?_
    refine VC.region ?_
    obtain ⟨b27, hS⟩ := gd_s hS
    refine VL.q (q_add rfl rfl b27) (by decide) ?_
    refine VL.q (q_move rfl) (by decide) ?_
    refine VL.rnd (s26_12, (x6_3 + 1), q23_9_1.b, q23_9_1.at_, q23_9_1.err) [0, 3, 5, 6] (fun _ _ h => h) (go2 hS hK1) rfl
  ·
    replace hS := it_f h7 hS
    replace hS := up2 hS hK1
    refine VC.exit_to (fun _ _ h => h) ?_
    refine VC.seq ?_
    refine VC.region ?_
    refine VL.q (q_move rfl) (by decide) ?_
    refine VL.shut out3_2 29 (fun _ _ _ _ => trivial) ?_
    obtain ⟨y29_14, ey29_14, hS⟩ := bd_s hS
    refine VL.callF (slices_Clip_object_Item_object_Item_ct out3_2 ey29_14) rfl (by decide) ?_
    rintro q29_14_0 rfl
    try dsimp only
    refine VL.q (q_assign rfl) (by decide) ?_
    refine VL.to (fun _ _ h => h) ?_
    cases hS
    exact VC.ret (fin1 (.inr rfl) rfl rfl (q29_14_0, ⟨c0_4, c1_5, c2_6⟩, ⟨q5_1_2.bad⟩) rfl rfl (by (try dsimp only); exact InM.out) (by (try dsimp only); exact EntO.out))

set_option maxHeartbeats 4000000 in
set_option maxRecDepth 100000 in
theorem slices_Clip_int_int_ct (s_0 : Sv Int) {r : List Int} (hS : Sh.slices_Clip_int_int s_0.l = some r) :
    Ct Tryz.prog 147 [s_0.val] s_0.ok (Ow.emp) (X := Sv Int) (fun x => x.val) (fun x => r = x.l) (fun x => x.ok) (fun x => Ow.emp) := by
  refine Ct.of Tryz.func147 rfl (by kernel_rfl) Tryz.ntmps147 (by simp) fun c => ?_
  unfold Sh.slices_Clip_int_int at hS
  refine VC.seq ?_
  refine VC.region ?_
  refine VL.q (q_assign rfl) (by decide) ?_
  refine VL.to (fun _ _ h => h) ?_
  refine VC.seq ?_
  refine VC.region ?_
  refine VL.q (q_move rfl) (by decide) ?_
  refine VL.q (q_move rfl) (by decide) ?_
  refine VL.q (q_ln (s := s_0) Tryz.underlying25 rfl) (by decide) ?_
  refine VL.q (q_move rfl) (by decide) ?_
  refine VL.q (q_ln (s := s_0) Tryz.underlying25 rfl) (by decide) ?_
  obtain ⟨b8, hS⟩ := gd_s hS
  refine VL.stom Tryz.underlying25 gsz3 rfl rfl rfl b8.1 (b8.2) (by decide) fun s8_1 hs8_1 => ?_
  replace hS := lt_to hs8_1 hS
  refine VL.q (q_assign rfl) (by decide) ?_
  refine VL.to (fun _ _ h => h) ?_
  cases hS
  exact VC.ret (fin1 (.inr rfl) rfl rfl s8_1 rfl rfl (by (try dsimp only); exact InM.out) (fun _ _ => trivial))

set_option maxHeartbeats 4000000 in
set_option maxRecDepth 100000 in
theorem object_reader_numbers_ct (r_0_b : Nat) (r_0 : ObjectReader) (r_0_dec_b : Nat) (r_0_dec : CodecDec) {r : List Int × CodecDecP × ObjectReader} (hS : Sh.object_reader_numbers r_0 r_0_dec.pl = some r) :
    Ct Tryz.prog 179 [ptr r_0_b 0] (r_0_dec.b.ok.and r_0_dec.err.ok) (Ow.star (Blk r_0_dec_b [r_0_dec.b.val, i64 r_0_dec.at_, r_0_dec.err.val] 244) (Blk r_0_b [ptr r_0_dec_b 0, .bool r_0.bad] 178)) (X := Sv Int × CodecDec × ObjectReader) (fun x => x.1.val) (fun x => r = (x.1.l, x.2.1.pl, x.2.2)) (fun x => (x.1.ok.and (x.2.1.b.ok.and x.2.1.err.ok))) (fun x => Ow.star (Blk r_0_dec_b [x.2.1.b.val, i64 x.2.1.at_, x.2.1.err.val] 244) (Blk r_0_b [ptr r_0_dec_b 0, .bool x.2.2.bad] 178)) := by
  refine Ct.of Tryz.func179 rfl (by kernel_rfl) Tryz.ntmps179 (by simp) fun c => ?_
  unfold Sh.object_reader_numbers at hS
  refine VC.seq ?_
  refine VC.region ?_
  refine VL.q (q_assign rfl) (by decide) ?_
  refine VL.to (fun _ _ h => h) ?_
  refine VC.seq ?_
  refine VC.region ?_
  refine VL.q (q_assign rfl) (by decide) ?_
  refine VL.to (fun _ _ h => h) ?_
  refine VC.seq ?_
  refine VC.seq ?_
  refine VC.region ?_
  refine VL.q (q_move rfl) (by decide) ?_
  obtain ⟨y5_1, ey5_1, hS⟩ := bd_s hS
  refine VL.callO (object_reader_many_ct r_0_b r_0 r_0_dec_b r_0_dec ey5_1) rfl (by decide) ?_
  rintro ⟨q5_1_0, q5_1_1, q5_1_2⟩ rfl
  try dsimp only
  refine VL.q (q_move rfl) (by decide) ?_
  refine VL.to (fun _ _ h => h) ?_
  refine VC.block ?_
  refine VC.nilO (⟨none, 0, []⟩ : Sv Int) 3 ⟨rfl, rfl⟩ ?_
  refine VC.iter (S := Sv Int × Int × Sv UInt8 × Int × Er) (fun sg => (sg.1.l, sg.2.1, sg.2.2.1.l, sg.2.2.2.1, sg.2.2.2.2.pl)) (fun sg => [(0, ptr r_0_b 0), (3, sg.1.val), (5, i64 q5_1_0), (6, i64 sg.2.1)]) (fun sg => (sg.2.2.1.ok.and sg.2.2.2.2.ok)) (fun sg => Ow.star (Blk r_0_b [ptr r_0_dec_b 0, .bool q5_1_2.bad] 178) (Ow.star (Blk r_0_dec_b [sg.2.2.1.val, i64 sg.2.2.2.1, sg.2.2.2.2.val] 244) (Ow.star (Sv.own sg.1 3) (Ow.emp)))) (⟨none, 0, []⟩, 0, q5_1_1.b, q5_1_1.at_, q5_1_1.err) [0, 3, 5, 6] hS rfl ?_
  clear hS
  rintro ⟨out3_2, x6_3, c0_4, c1_5, c2_6⟩ m1 y1 hS hK1
  show VC _ _ _ _ _ [(0, ptr r_0_b 0), (3, out3_2.val), (5, i64 q5_1_0), (6, i64 x6_3)] (Mo.and (c0_4.ok.and c2_6.ok) _) (Ow.star (Blk r_0_b [ptr r_0_dec_b 0, .bool q5_1_2.bad] 178) (Ow.star (Blk r_0_dec_b [c0_4.val, i64 c1_5, c2_6.val] 244) (Ow.star (Sv.own out3_2 3) (Ow.emp))))
  refine VC.seq ?_
  refine VC.region ?_
  refine VL.q (q_lss rfl rfl) (by decide) ?_
  refine VL.to (fun _ _ h => h) ?_
  refine VC.seq ?_
  refine VC.cond_dec rfl (fun h7 => ?_) (fun h7 => ?_)
  ·
    replace hS := it_t h7 hS
    refine VC.skip_to (fun _ _ h => h) ?_
    refine VC.seq ?_
    refine VC.block ?_
    refine VC.region ?_
    refine VL.q (q_move rfl) (by decide) ?_
    refine VL.q (q_move rfl) (by decide) ?_
    refine VL.q (q_nilCheck rfl) (by decide) ?_
    refine VL.q (q_field gfa178_0 rfl) (by decide) ?_
    refine VL.q (q_fe gone175 rfl rfl) (by decide) ?_
    obtain ⟨y13_7, ey13_7, hS⟩ := bd_s hS
    refine VL.callO (codec_Dec_Int_ct r_0_dec_b (⟨c0_4, c1_5, c2_6⟩ : CodecDec) ey13_7) rfl (by decide) ?_
    rintro ⟨q13_7_0, q13_7_1⟩ rfl
    try dsimp only
    refine VL.lit (α := Int) (xs := [.tmp 13]) (vs := [i64 q13_7_0]) [q13_7_0] Tryz.underlying25 glit3 (by decide) rfl rfl rfl rfl (by decide) (fun _ _ _ _ => trivial) (by decide) (fun s14_8 hs14_8 => ?_) (by decide)
    replace hS := lt_to hs14_8 hS
    obtain ⟨b15, hS⟩ := gd_s hS
    refine VL.app (s := out3_2) (r := s14_8) Tryz.underlying25 gapp3 (by decide) rfl Fo.out (ap1 b15) (ap2 b15 (by decide)) (by decide) (fun s15_10 hs15_10 => ?_)
    replace hS := lt_to hs15_10 hS
    refine VL.q (q_assign rfl) (by decide) ?_
    refine VL.to (fun _ _ h => h) ?_
    refine VC.keep [0, 3, 5, 6] rfl ?_
    refine VC.region ?_
    obtain ⟨b16, hS⟩ := gd_s hS
    refine VL.q (q_add rfl rfl b16) (by decide) ?_
    refine VL.q (q_move rfl) (by decide) ?_
    refine VL.rnd (s15_10, (x6_3 + 1), q13_7_1.b, q13_7_1.at_, q13_7_1.err) [0, 3, 5, 6] (fun _ _ h => h) (go2 hS hK1) rfl
  ·
    replace hS := it_f h7 hS
    replace hS := up2 hS hK1
    refine VC.exit_to (fun _ _ h => h) ?_
    refine VC.seq ?_
    refine VC.region ?_
    refine VL.q (q_move rfl) (by decide) ?_
    refine VL.shut out3_2 3 (fun _ _ _ _ => trivial) ?_
    obtain ⟨y18_12, ey18_12, hS⟩ := bd_s hS
    refine VL.callF (slices_Clip_int_int_ct out3_2 ey18_12) rfl (by decide) ?_
    rintro q18_12_0 rfl
    try dsimp only
    refine VL.q (q_assign rfl) (by decide) ?_
    refine VL.to (fun _ _ h => h) ?_
    cases hS
    exact VC.ret (fin1 (.inr rfl) rfl rfl (q18_12_0, ⟨c0_4, c1_5, c2_6⟩, ⟨q5_1_2.bad⟩) rfl rfl (by (try dsimp only); exact InM.out) (by (try dsimp only); exact EntO.out))

set_option maxHeartbeats 4000000 in
set_option maxRecDepth 100000 in
theorem object_reader_object_ct (r_0_b : Nat) (r_0 : ObjectReader) (r_0_dec_b : Nat) (r_0_dec : CodecDec) {r : ObjectObjectP × CodecDecP × ObjectReader} (hS : Sh.object_reader_object r_0 r_0_dec.pl = some r) :
    Ct Tryz.prog 110 [ptr r_0_b 0] (r_0_dec.b.ok.and r_0_dec.err.ok) (Ow.star (Blk r_0_dec_b [r_0_dec.b.val, i64 r_0_dec.at_, r_0_dec.err.val] 244) (Blk r_0_b [ptr r_0_dec_b 0, .bool r_0.bad] 178)) (X := ObjectObject × CodecDec × ObjectReader) (fun x => .agg (Dat.enc x.1).toArray) (fun x => r = (x.1.pl, x.2.1.pl, x.2.2)) (fun x => (x.1.m.and (x.2.1.b.ok.and x.2.1.err.ok))) (fun x => Ow.star (Blk r_0_dec_b [x.2.1.b.val, i64 x.2.1.at_, x.2.1.err.val] 244) (Blk r_0_b [ptr r_0_dec_b 0, .bool x.2.2.bad] 178)) := by
  refine Ct.of Tryz.func110 rfl (by kernel_rfl) Tryz.ntmps110 (by simp) fun c => ?_
  unfold Sh.object_reader_object at hS
  refine VC.seq ?_
  refine VC.region ?_
  refine VL.alloc (cs := [i64 0, .slice none 0 0, .slice none 0 0, i64 0, .slice none 0 0, i64 0, str []]) (by kernel_rfl) (by decide) fun b2_1 => ?_
  refine VL.to (fun _ _ h => h) ?_
  refine VC.seq ?_
  refine VC.region ?_
  refine VL.q (q_move rfl) (by decide) ?_
  refine VL.q (q_nilCheck rfl) (by decide) ?_
  refine VL.q (q_field gfa178_0 rfl) (by decide) ?_
  refine VL.q (q_fe gone175 rfl rfl) (by decide) ?_
  obtain ⟨y8_2, ey8_2, hS⟩ := bd_s hS
  refine VL.callO (codec_Dec_Int_ct r_0_dec_b r_0_dec ey8_2) rfl (by decide) ?_
  rintro ⟨q8_2_0, q8_2_1⟩ rfl
  try dsimp only
  refine VL.q (q_build (vs := [(0, i64 q8_2_0)]) (cs := #[i64 q8_2_0, .slice none 0 0, .slice none 0 0, i64 0, .slice none 0 0, i64 0, str []]) rfl (by kernel_rfl)) (by decide) ?_
  refine VL.alloc (cs := [i64 0, .slice none 0 0, .slice none 0 0, i64 0, .slice none 0 0, i64 0, str []]) (by kernel_rfl) (by decide) fun b3_3 => ?_
  refine VL.store (vc := [i64 q8_2_0, .slice none 0 0, .slice none 0 0, i64 0, .slice none 0 0, i64 0, str []]) (cs' := [i64 q8_2_0, .slice none 0 0, .slice none 0 0, i64 0, .slice none 0 0, i64 0, str []]) rfl rfl rfl gsz27 rfl rfl (Nat.le_of_ble_eq_true rfl) rfl ?_
  refine VL.to (fun _ _ h => h) ?_
  refine VC.seq ?_
  refine VC.seq ?_
  refine VC.region ?_
  refine VL.q (q_field gfa27_0 rfl) (by decide) ?_
  refine VL.q (q_fe gone3 rfl rfl) (by decide) ?_
  refine VL.to (fun _ _ h => h) ?_
  refine VC.keep [0, 2, 3, 11] rfl ?_
  refine VC.block ?_
  refine VC.seq ?_
  refine VC.region ?_
  refine VL.q (q_eql rfl rfl) (by decide) ?_
  refine VL.q (q_assign rfl) (by decide) ?_
  refine VL.to (fun _ _ h => h) ?_
  refine VC.cond_dec rfl (fun h12 => ?_) (fun h12 => ?_)
  ·
    replace hS := it_t h12 hS
    refine VC.region ?_
    refine VL.q (q_move rfl) (by decide) ?_
    refine VL.q (q_nilCheck rfl) (by decide) ?_
    refine VL.q (q_field gfa178_0 rfl) (by decide) ?_
    refine VL.q (q_fe gone175 rfl rfl) (by decide) ?_
    obtain ⟨y18_4, ey18_4, hS⟩ := bd_s hS
    refine VL.callO (codec_Dec_Text_ct r_0_dec_b q8_2_1 ey18_4) rfl (by decide) ?_
    rintro ⟨q18_4_0, q18_4_1⟩ rfl
    try dsimp only
    obtain ⟨b19, hS⟩ := gd_s hS
    refine VL.s2b Tryz.underlying9 Tryz.underlying23 Tryz.underlying5 rfl b19 (by decide) fun s19_5 hs19_5 => ?_
    replace hS := lt_to hs19_5 hS
    refine VL.q (q_field gfa27_1 rfl) (by decide) ?_
    refine VL.store (vc := [s19_5.val]) (cs' := [i64 q8_2_0, s19_5.val, .slice none 0 0, i64 0, .slice none 0 0, i64 0, str []]) rfl rfl rfl gsz23 rfl rfl (Nat.le_of_ble_eq_true rfl) rfl ?_
    refine VL.to (fun _ _ h => h) ?_
    refine VC.keep [2, 3] rfl ?_
    refine VC.seq ?_
    refine VC.region ?_
    refine VL.q (q_fes gagg27 rfl rfl) (by decide) ?_
    refine VL.store (vc := [i64 q8_2_0, s19_5.val, .slice none 0 0, i64 0, .slice none 0 0, i64 0, str []]) (cs' := [i64 q8_2_0, s19_5.val, .slice none 0 0, i64 0, .slice none 0 0, i64 0, str []]) rfl rfl rfl gsz27 rfl rfl (Nat.le_of_ble_eq_true rfl) rfl ?_
    refine VL.to (fun _ _ h => h) ?_
    cases hS
    exact VC.ret (finG (vs := [.agg #[i64 q8_2_0, s19_5.val, .slice none 0 0, i64 0, .slice none 0 0, i64 0, str []]]) (.inr rfl) rfl (RVs.cell gagg27 rfl rfl Rd.blk (RVs.nil)) (⟨q8_2_0, s19_5, ⟨none, 0, []⟩, 0, ⟨none, 0, []⟩, 0, []⟩, ⟨q18_4_1.b, q18_4_1.at_, q18_4_1.err⟩, ⟨r_0.bad⟩) rfl rfl (by (try dsimp only); exact InM.out) (by (try dsimp only); exact EntO.out))
  ·
    replace hS := it_f h12 hS
    refine VC.seq ?_
    refine VC.region ?_
    refine VL.q (q_eql rfl rfl) (by decide) ?_
    refine VL.q (q_assign rfl) (by decide) ?_
    refine VL.to (fun _ _ h => h) ?_
    refine VC.cond_dec rfl (fun h21 => ?_) (fun h21 => ?_)
    ·
      replace hS := it_t h21 hS
      refine VC.region ?_
      refine VL.q (q_move rfl) (by decide) ?_
      obtain ⟨y24_7, ey24_7, hS⟩ := bd_s hS
      refine VL.callO (object_reader_items_ct r_0_b r_0 r_0_dec_b q8_2_1 ey24_7) rfl (by decide) ?_
      rintro ⟨q24_7_0, q24_7_1, q24_7_2⟩ rfl
      try dsimp only
      refine VL.q (q_field gfa27_2 rfl) (by decide) ?_
      refine VL.store (vc := [q24_7_0.val]) (cs' := [i64 q8_2_0, .slice none 0 0, q24_7_0.val, i64 0, .slice none 0 0, i64 0, str []]) rfl rfl rfl gsz24 rfl rfl (Nat.le_of_ble_eq_true rfl) rfl ?_
      refine VL.to (fun _ _ h => h) ?_
      refine VC.keep [2, 3] rfl ?_
      refine VC.seq ?_
      refine VC.region ?_
      refine VL.q (q_fes gagg27 rfl rfl) (by decide) ?_
      refine VL.store (vc := [i64 q8_2_0, .slice none 0 0, q24_7_0.val, i64 0, .slice none 0 0, i64 0, str []]) (cs' := [i64 q8_2_0, .slice none 0 0, q24_7_0.val, i64 0, .slice none 0 0, i64 0, str []]) rfl rfl rfl gsz27 rfl rfl (Nat.le_of_ble_eq_true rfl) rfl ?_
      refine VL.to (fun _ _ h => h) ?_
      cases hS
      exact VC.ret (finG (vs := [.agg #[i64 q8_2_0, .slice none 0 0, q24_7_0.val, i64 0, .slice none 0 0, i64 0, str []]]) (.inr rfl) rfl (RVs.cell gagg27 rfl rfl Rd.blk (RVs.nil)) (⟨q8_2_0, ⟨none, 0, []⟩, q24_7_0, 0, ⟨none, 0, []⟩, 0, []⟩, ⟨q24_7_1.b, q24_7_1.at_, q24_7_1.err⟩, ⟨q24_7_2.bad⟩) rfl rfl (by (try dsimp only); exact InM.out) (by (try dsimp only); exact EntO.out))
    ·
      replace hS := it_f h21 hS
      refine VC.seq ?_
      refine VC.region ?_
      refine VL.q (q_eql rfl rfl) (by decide) ?_
      refine VL.q (q_assign rfl) (by decide) ?_
      refine VL.to (fun _ _ h => h) ?_
      refine VC.cond_dec rfl (fun h26 => ?_) (fun h26 => ?_)
      ·
        replace hS := it_t h26 hS
        refine VC.seq ?_
        refine VC.region ?_
        refine VL.q (q_move rfl) (by decide) ?_
        refine VL.q (q_nilCheck rfl) (by decide) ?_
        refine VL.q (q_field gfa178_0 rfl) (by decide) ?_
        refine VL.q (q_fe gone175 rfl rfl) (by decide) ?_
        obtain ⟨y32_8, ey32_8, hS⟩ := bd_s hS
        refine VL.callO (codec_Dec_Int_ct r_0_dec_b q8_2_1 ey32_8) rfl (by decide) ?_
        rintro ⟨q32_8_0, q32_8_1⟩ rfl
        try dsimp only
        refine VL.q (q_field gfa27_3 rfl) (by decide) ?_
        refine VL.store (vc := [i64 q32_8_0]) (cs' := [i64 q8_2_0, .slice none 0 0, .slice none 0 0, i64 q32_8_0, .slice none 0 0, i64 0, str []]) rfl rfl rfl gsz3 rfl rfl (Nat.le_of_ble_eq_true rfl) rfl ?_
        refine VL.to (fun _ _ h => h) ?_
        refine VC.keep [0, 2, 3] rfl ?_
        refine VC.seq ?_
        refine VC.region ?_
        refine VL.q (q_move rfl) (by decide) ?_
        obtain ⟨y35_9, ey35_9, hS⟩ := bd_s hS
        refine VL.callO (object_reader_numbers_ct r_0_b r_0 r_0_dec_b q32_8_1 ey35_9) rfl (by decide) ?_
        rintro ⟨q35_9_0, q35_9_1, q35_9_2⟩ rfl
        try dsimp only
        refine VL.q (q_field gfa27_4 rfl) (by decide) ?_
        refine VL.store (vc := [q35_9_0.val]) (cs' := [i64 q8_2_0, .slice none 0 0, .slice none 0 0, i64 q32_8_0, q35_9_0.val, i64 0, str []]) rfl rfl rfl gsz25 rfl rfl (Nat.le_of_ble_eq_true rfl) rfl ?_
        refine VL.to (fun _ _ h => h) ?_
        refine VC.draw [(0, true), (1, true), (2, true), (3, true), (5, true), (6, true), (7, true), (8, true), (4, false), (10, true), (9, false), (11, false), (12, true), (13, false)] mixed (by kernel_rfl) (by kernel_rfl) (by kernel_rfl) ?_
        refine VD.q rfl (q_move rfl) (by decide) ?_
        refine VD.q rfl (q_nilCheck rfl) (by decide) ?_
        refine VD.q rfl (q_field gfa178_0 rfl) (by decide) ?_
        refine VD.q rfl (q_fe gone175 rfl rfl) (by decide) ?_
        refine VD.q rfl (q_move rfl) (by decide) ?_
        refine VD.q rfl (q_nilCheck rfl) (by decide) ?_
        refine VD.q rfl (q_field gfa178_0 rfl) (by decide) ?_
        refine VD.q rfl (q_fe gone175 rfl rfl) (by decide) ?_
        refine VD.one rfl ?_
        obtain ⟨y41_10, ey41_10, hS⟩ := bd_s hS
        refine VL.callO (codec_Dec_Int_ct r_0_dec_b q35_9_1 ey41_10) rfl (by decide) ?_
        rintro ⟨q41_10_0, q41_10_1⟩ rfl
        try dsimp only
        refine VL.back (D' := [(8, ptr r_0_dec_b 0), (7, ptr r_0_b 0), (6, ptr r_0_b 0)]) (by kernel_rfl) (Pend.cons rfl (q_fe gone175 rfl rfl) (Pend.cons rfl (q_field gfa178_0 rfl) (Pend.cons rfl (q_nilCheck rfl) (Pend.nil)))) ?_
        refine VD.q rfl (q_field gfa27_5 rfl) (by decide) ?_
        refine VD.one rfl ?_
        obtain ⟨y46_11, ey46_11, hS⟩ := bd_s hS
        refine VL.callO (codec_Dec_Text_ct r_0_dec_b q41_10_1 ey46_11) rfl (by decide) ?_
        rintro ⟨q46_11_0, q46_11_1⟩ rfl
        try dsimp only
        refine VL.back (D' := [(10, ptr b3_3 5)]) (by kernel_rfl) (Pend.cons rfl (q_field gfa27_5 rfl) (Pend.nil)) ?_
        refine VD.one rfl ?_
        refine VL.store (vc := [i64 q41_10_0]) (cs' := [i64 q8_2_0, .slice none 0 0, .slice none 0 0, i64 q32_8_0, q35_9_0.val, i64 q41_10_0, str []]) rfl rfl rfl gsz3 rfl rfl (Nat.le_of_ble_eq_true rfl) rfl ?_
        refine VL.back (D' := []) (by kernel_rfl) (Pend.nil) ?_
        refine VD.q rfl (q_field gfa27_6 rfl) (by decide) ?_
        refine VD.one rfl ?_
        refine VL.store (vc := [str q46_11_0]) (cs' := [i64 q8_2_0, .slice none 0 0, .slice none 0 0, i64 q32_8_0, q35_9_0.val, i64 q41_10_0, str q46_11_0]) rfl rfl rfl gsz9 rfl rfl (Nat.le_of_ble_eq_true rfl) rfl ?_
        refine VL.back (D' := []) (by kernel_rfl) (Pend.nil) ?_
        refine VD.to (fun _ _ h => h) ?_
        refine VC.keep [2, 3] rfl ?_
        refine VC.seq ?_
        refine VC.region ?_
        refine VL.q (q_fes gagg27 rfl rfl) (by decide) ?_
        refine VL.store (vc := [i64 q8_2_0, .slice none 0 0, .slice none 0 0, i64 q32_8_0, q35_9_0.val, i64 q41_10_0, str q46_11_0]) (cs' := [i64 q8_2_0, .slice none 0 0, .slice none 0 0, i64 q32_8_0, q35_9_0.val, i64 q41_10_0, str q46_11_0]) rfl rfl rfl gsz27 rfl rfl (Nat.le_of_ble_eq_true rfl) rfl ?_
        refine VL.to (fun _ _ h => h) ?_
        cases hS
        exact VC.ret (finG (vs := [.agg #[i64 q8_2_0, .slice none 0 0, .slice none 0 0, i64 q32_8_0, q35_9_0.val, i64 q41_10_0, str q46_11_0]]) (.inr rfl) rfl (RVs.cell gagg27 rfl rfl Rd.blk (RVs.nil)) (⟨q8_2_0, ⟨none, 0, []⟩, ⟨none, 0, []⟩, q32_8_0, q35_9_0, q41_10_0, q46_11_0⟩, ⟨q46_11_1.b, q46_11_1.at_, q46_11_1.err⟩, ⟨q35_9_2.bad⟩) rfl rfl (by (try dsimp only); exact InM.out) (by (try dsimp only); exact EntO.out))
      ·
        replace hS := it_f h26 hS
        refine VC.skip_to (fun _ _ h => h) ?_
        refine VC.seq ?_
        refine VC.region ?_
        refine VL.q (q_fes gagg27 rfl rfl) (by decide) ?_
        refine VL.store (vc := [i64 q8_2_0, .slice none 0 0, .slice none 0 0, i64 0, .slice none 0 0, i64 0, str []]) (cs' := [i64 q8_2_0, .slice none 0 0, .slice none 0 0, i64 0, .slice none 0 0, i64 0, str []]) rfl rfl rfl gsz27 rfl rfl (Nat.le_of_ble_eq_true rfl) rfl ?_
        refine VL.to (fun _ _ h => h) ?_
        refine VC.keep [2] rfl ?_
        cases hS
        exact VC.ret (finG (vs := [.agg #[i64 q8_2_0, .slice none 0 0, .slice none 0 0, i64 0, .slice none 0 0, i64 0, str []]]) (.inr rfl) rfl (RVs.cell gagg27 rfl rfl Rd.blk (RVs.nil)) (⟨q8_2_0, ⟨none, 0, []⟩, ⟨none, 0, []⟩, 0, ⟨none, 0, []⟩, 0, []⟩, ⟨q8_2_1.b, q8_2_1.at_, q8_2_1.err⟩, ⟨r_0.bad⟩) rfl rfl (by (try dsimp only); exact InM.out) (by (try dsimp only); exact EntO.out))

set_option maxHeartbeats 4000000 in
set_option maxRecDepth 100000 in
theorem codec_Dec_Err_ct (d_0_b : Nat) (d_0 : CodecDec) {r : Err} (hS : Sh.codec_Dec_Err d_0.pl = some r) :
    Ct Tryz.prog 111 [ptr d_0_b 0] (d_0.b.ok.and d_0.err.ok) (Blk d_0_b [d_0.b.val, i64 d_0.at_, d_0.err.val] 244) (X := Er) (fun x => x.val) (fun x => r = x.pl) (fun x => x.ok) (fun x => Blk d_0_b [d_0.b.val, i64 d_0.at_, d_0.err.val] 244) := by
  refine Ct.of Tryz.func111 rfl (by kernel_rfl) Tryz.ntmps111 (by simp) fun c => ?_
  unfold Sh.codec_Dec_Err at hS
  refine VC.seq ?_
  refine VC.region ?_
  refine VL.q (q_assign rfl) (by decide) ?_
  refine VL.to (fun _ _ h => h) ?_
  refine VC.seq ?_
  refine VC.region ?_
  refine VL.q (q_move rfl) (by decide) ?_
  refine VL.q (q_nilCheck rfl) (by decide) ?_
  refine VL.q (q_field gfa244_2 rfl) (by decide) ?_
  refine VL.q (q_fe gone38 rfl rfl) (by decide) ?_
  refine VL.q (q_assign rfl) (by decide) ?_
  refine VL.to (fun _ _ h => h) ?_
  cases hS
  exact VC.ret (fin1 (.inr rfl) rfl rfl d_0.err rfl rfl (by (try dsimp only); exact InM.out) (by (try dsimp only); exact EntO.out))

set_option maxHeartbeats 4000000 in
set_option maxRecDepth 100000 in
theorem codec_Dec_Left_ct (d_0_b : Nat) (d_0 : CodecDec) {r : Int} (hS : Sh.codec_Dec_Left d_0.pl = some r) :
    Ct Tryz.prog 112 [ptr d_0_b 0] (d_0.b.ok.and (d_0.err.ok.and (Cells d_0_b 0 [d_0.b.val, i64 d_0.at_, d_0.err.val]))) (Ow.emp) (X := Unit) (fun _ => i64 r) (fun _ => True) (fun _ => Mo.tt) (fun _ => Ow.emp) := by
  refine Ct.of Tryz.func112 rfl (by kernel_rfl) Tryz.ntmps112 (by simp) fun c => ?_
  unfold Sh.codec_Dec_Left at hS
  refine VC.seq ?_
  refine VC.region ?_
  refine VL.q (q_assign rfl) (by decide) ?_
  refine VL.to (fun _ _ h => h) ?_
  refine VC.seq ?_
  refine VC.seq ?_
  refine VC.region ?_
  refine VL.q (q_move rfl) (by decide) ?_
  refine VL.q (q_nilCheck rfl) (by decide) ?_
  refine VL.q (q_field gfa244_2 rfl) (by decide) ?_
  refine VL.q (q_fm gone38 rfl rfl) (by decide) ?_
  refine VL.q (q_erne Tryz.underlying38 rfl) (by decide) ?_
  refine VL.to (fun _ _ h => h) ?_
  refine VC.cond_ndec rfl (fun h7 => ?_) (fun h7 => ?_)
  ·
    replace hS := it_f h7 hS
    refine VC.seq ?_
    refine VC.region ?_
    refine VL.q (q_assign rfl) (by decide) ?_
    refine VL.to (fun _ _ h => h) ?_
    cases hS
    exact VC.ret (fin1 (.inr rfl) rfl rfl () rfl trivial (fun _ _ => trivial) (fun _ _ => trivial))
  ·
    replace hS := it_t h7 hS
    refine VC.skip_to (fun _ _ h => h) ?_
    refine VC.seq ?_
    refine VC.draw ((List.range 11).map fun k => (k, true)) mixed (by kernel_rfl) (by kernel_rfl) (by kernel_rfl) ?_
    refine VD.q rfl (q_move rfl) (by decide) ?_
    refine VD.q rfl (q_nilCheck rfl) (by decide) ?_
    refine VD.q rfl (q_field gfa244_0 rfl) (by decide) ?_
    refine VD.q rfl (q_fm gone23 rfl rfl) (by decide) ?_
    refine VD.q rfl (q_ln (s := d_0.b) Tryz.underlying23 rfl) (by decide) ?_
    refine VD.q rfl (q_move rfl) (by decide) ?_
    refine VD.q rfl (q_nilCheck rfl) (by decide) ?_
    refine VD.q rfl (q_field gfa244_1 rfl) (by decide) ?_
    refine VD.q rfl (q_fm gone3 rfl rfl) (by decide) ?_
    obtain ⟨b17, hS⟩ := gd_s hS
    refine VD.q rfl (q_sub rfl rfl b17) (by decide) ?_
    refine VD.q rfl (q_assign rfl) (by decide) ?_
    refine VD.to (fun _ _ h => h) ?_
    refine VC.keep [2] rfl ?_
    cases hS
    exact VC.ret (fin1 (.inr rfl) rfl rfl () rfl trivial (fun _ _ => trivial) (fun _ _ => trivial))

set_option maxHeartbeats 4000000 in
set_option maxRecDepth 100000 in
theorem object_Decode_ct (b_0 : Sv UInt8) {r : ObjectObjectP × Err} (hS : Sh.object_Decode b_0.l = some r) :
    Ct Tryz.prog 42 [b_0.val] b_0.ok (Ow.emp) (X := ObjectObject × Er) (fun x => .tuple #[.agg (Dat.enc x.1).toArray, x.2.val]) (fun x => r = (x.1.pl, x.2.pl)) (fun x => (x.1.m.and x.2.ok)) (fun x => Ow.emp) := by
  refine Ct.of Tryz.func42 rfl (by kernel_rfl) Tryz.ntmps42 (by simp) fun c => ?_
  unfold Sh.object_Decode at hS
  refine VC.seq ?_
  refine VC.region ?_
  refine VL.alloc (cs := [i64 0, .slice none 0 0, .slice none 0 0, i64 0, .slice none 0 0, i64 0, str []]) (by kernel_rfl) (by decide) fun b2_1 => ?_
  refine VL.q (q_assign rfl) (by decide) ?_
  refine VL.to (fun _ _ h => h) ?_
  refine VC.seq ?_
  refine VC.region ?_
  refine VL.q (q_move rfl) (by decide) ?_
  obtain ⟨y12_2, ey12_2, hS⟩ := bd_s hS
  refine VL.callF (seal_Open_ct b_0 ey12_2) rfl (by decide) ?_
  rintro ⟨q12_2_0, q12_2_1⟩ rfl
  try dsimp only
  refine VL.q (q_move rfl) (by decide) ?_
  refine VL.q (q_extract rfl rfl) (by decide) ?_
  refine VL.q (q_extract rfl rfl) (by decide) ?_
  refine VL.q (q_assign rfl) (by decide) ?_
  refine VL.q (q_assign rfl) (by decide) ?_
  refine VL.to (fun _ _ h => h) ?_
  refine VC.seq ?_
  refine VC.seq ?_
  refine VC.region ?_
  refine VL.q (q_move rfl) (by decide) ?_
  refine VL.q (q_erne Tryz.underlying38 rfl) (by decide) ?_
  refine VL.to (fun _ _ h => h) ?_
  refine VC.keep [0, 2, 4, 5, 16] rfl ?_
  refine VC.cond_ndec rfl (fun h16 => ?_) (fun h16 => ?_)
  ·
    replace hS := it_f h16 hS
    refine VC.seq ?_
    refine VC.region ?_
    refine VL.q (q_build (vs := []) (cs := #[i64 0, .slice none 0 0, .slice none 0 0, i64 0, .slice none 0 0, i64 0, str []]) rfl (by kernel_rfl)) (by decide) ?_
    refine VL.q (q_move rfl) (by decide) ?_
    refine VL.store (vc := [i64 0, .slice none 0 0, .slice none 0 0, i64 0, .slice none 0 0, i64 0, str []]) (cs' := [i64 0, .slice none 0 0, .slice none 0 0, i64 0, .slice none 0 0, i64 0, str []]) rfl rfl rfl gsz27 rfl rfl (Nat.le_of_ble_eq_true rfl) rfl ?_
    refine VL.q (q_assign rfl) (by decide) ?_
    refine VL.to (fun _ _ h => h) ?_
    cases hS
    exact VC.ret (finG (vs := [.agg #[i64 0, .slice none 0 0, .slice none 0 0, i64 0, .slice none 0 0, i64 0, str []], q12_2_1.val]) (.inr rfl) rfl (RVs.cell gagg27 rfl rfl Rd.blk (RVs.tmp rfl (RVs.nil))) (⟨0, ⟨none, 0, []⟩, ⟨none, 0, []⟩, 0, ⟨none, 0, []⟩, 0, []⟩, q12_2_1) rfl rfl (by (try dsimp only); exact InM.out) (fun _ _ => trivial))
  ·
    replace hS := it_t h16 hS
    refine VC.skip_to (fun _ _ h => h) ?_
    refine VC.seq ?_
    refine VC.region ?_
    refine VL.q (q_move rfl) (by decide) ?_
    obtain ⟨y20_3, ey20_3, hS⟩ := bd_s hS
    refine VL.callO (codec_Of_ct q12_2_0 ey20_3) rfl (by decide) ?_
    rintro ⟨q20_3_0, q20_3_1⟩ rfl
    try dsimp only
    refine VL.q (q_build (vs := [(0, ptr q20_3_0 0)]) (cs := #[ptr q20_3_0 0, .bool false]) rfl (by kernel_rfl)) (by decide) ?_
    refine VL.box (cs := [ptr q20_3_0 0, .bool false]) rfl rfl (by decide) fun b22_4 => ?_
    refine VL.q (q_assign rfl) (by decide) ?_
    refine VL.to (fun _ _ h => h) ?_
    refine VC.seq ?_
    refine VC.region ?_
    refine VL.q (q_move rfl) (by decide) ?_
    obtain ⟨y24_5, ey24_5, hS⟩ := bd_s hS
    refine VL.callO (object_reader_object_ct b22_4 (⟨false⟩ : ObjectReader) q20_3_0 q20_3_1 ey24_5) rfl (by decide) ?_
    rintro ⟨q24_5_0, q24_5_1, q24_5_2⟩ rfl
    try dsimp only
    refine VL.alloc (cs := [i64 0, .slice none 0 0, .slice none 0 0, i64 0, .slice none 0 0, i64 0, str []]) (by kernel_rfl) (by decide) fun b7_6 => ?_
    refine VL.store (vc := [i64 q24_5_0.kind, q24_5_0.data.val, q24_5_0.items.val, i64 q24_5_0.tree, q24_5_0.parents.val, i64 q24_5_0.time, str q24_5_0.text]) (cs' := [i64 q24_5_0.kind, q24_5_0.data.val, q24_5_0.items.val, i64 q24_5_0.tree, q24_5_0.parents.val, i64 q24_5_0.time, str q24_5_0.text]) rfl rfl rfl gsz27 rfl rfl (Nat.le_of_ble_eq_true rfl) rfl ?_
    refine VL.to (fun _ _ h => h) ?_
    refine VC.keep [0, 2, 6, 7] rfl ?_
    refine VC.seq ?_
    refine VC.seq ?_
    refine VC.region ?_
    refine VL.q (q_move rfl) (by decide) ?_
    refine VL.q (q_nilCheck rfl) (by decide) ?_
    refine VL.q (q_field gfa178_1 rfl) (by decide) ?_
    refine VL.q (q_fe gone4 rfl rfl) (by decide) ?_
    refine VL.to (fun _ _ h => h) ?_
    refine VC.cond rfl (fun h28 => ?_) (fun h28 => ?_)
    ·
      replace hS := it_t h28 hS
      refine VC.seq ?_
      refine VC.region ?_
      refine VL.q (q_build (vs := []) (cs := #[i64 0, .slice none 0 0, .slice none 0 0, i64 0, .slice none 0 0, i64 0, str []]) rfl (by kernel_rfl)) (by decide) ?_
      refine VL.q (q_mkif Tryz.underlying99 (fun _ h => by cases h) rfl) (by decide) ?_
      obtain ⟨y31_7, ey31_7, hS⟩ := bd_s hS
      refine VL.callF (object_fault_ct 0 (Er.no 2) ey31_7) rfl (by decide) ?_
      rintro q31_7_0 rfl
      try dsimp only
      refine VL.store (vc := [i64 0, .slice none 0 0, .slice none 0 0, i64 0, .slice none 0 0, i64 0, str []]) (cs' := [i64 0, .slice none 0 0, .slice none 0 0, i64 0, .slice none 0 0, i64 0, str []]) rfl rfl rfl gsz27 rfl rfl (Nat.le_of_ble_eq_true rfl) rfl ?_
      refine VL.q (q_assign rfl) (by decide) ?_
      refine VL.to (fun _ _ h => h) ?_
      refine VC.keep [2, 3] rfl ?_
      cases hS
      exact VC.ret (finG (vs := [.agg #[i64 0, .slice none 0 0, .slice none 0 0, i64 0, .slice none 0 0, i64 0, str []], q31_7_0.val]) (.inr rfl) rfl (RVs.cell gagg27 rfl rfl Rd.blk (RVs.tmp rfl (RVs.nil))) (⟨0, ⟨none, 0, []⟩, ⟨none, 0, []⟩, 0, ⟨none, 0, []⟩, 0, []⟩, q31_7_0) rfl rfl (by (try dsimp only); exact InM.out) (fun _ _ => trivial))
    ·
      replace hS := it_b h28 hS
      refine VC.skip_to (fun _ _ h => h) ?_
      refine VC.seq ?_
      refine VC.seq ?_
      refine VC.region ?_
      refine VL.q (q_move rfl) (by decide) ?_
      refine VL.q (q_nilCheck rfl) (by decide) ?_
      refine VL.q (q_field gfa178_0 rfl) (by decide) ?_
      refine VL.q (q_fe gone175 rfl rfl) (by decide) ?_
      obtain ⟨y36_8, ey36_8, hS⟩ := bd_s hS
      refine VL.callO (codec_Dec_Err_ct q20_3_0 q24_5_1 ey36_8) rfl (by decide) ?_
      rintro q36_8_0 rfl
      try dsimp only
      refine VL.q (q_assign rfl) (by decide) ?_
      refine VL.to (fun _ _ h => h) ?_
      refine VC.keep [0, 2, 6, 7, 8] rfl ?_
      refine VC.seq ?_
      refine VC.region ?_
      refine VL.q (q_move rfl) (by decide) ?_
      refine VL.q (q_erne Tryz.underlying38 rfl) (by decide) ?_
      refine VL.to (fun _ _ h => h) ?_
      refine VC.cond_ndec rfl (fun h38 => ?_) (fun h38 => ?_)
      ·
        replace hS := it_f h38 hS
        refine VC.seq ?_
        refine VC.region ?_
        refine VL.q (q_build (vs := []) (cs := #[i64 0, .slice none 0 0, .slice none 0 0, i64 0, .slice none 0 0, i64 0, str []]) rfl (by kernel_rfl)) (by decide) ?_
        refine VL.q (q_move rfl) (by decide) ?_
        refine VL.store (vc := [i64 0, .slice none 0 0, .slice none 0 0, i64 0, .slice none 0 0, i64 0, str []]) (cs' := [i64 0, .slice none 0 0, .slice none 0 0, i64 0, .slice none 0 0, i64 0, str []]) rfl rfl rfl gsz27 rfl rfl (Nat.le_of_ble_eq_true rfl) rfl ?_
        refine VL.q (q_assign rfl) (by decide) ?_
        refine VL.to (fun _ _ h => h) ?_
        cases hS
        exact VC.ret (finG (vs := [.agg #[i64 0, .slice none 0 0, .slice none 0 0, i64 0, .slice none 0 0, i64 0, str []], q36_8_0.val]) (.inr rfl) rfl (RVs.cell gagg27 rfl rfl Rd.blk (RVs.tmp rfl (RVs.nil))) (⟨0, ⟨none, 0, []⟩, ⟨none, 0, []⟩, 0, ⟨none, 0, []⟩, 0, []⟩, q36_8_0) rfl rfl (by (try dsimp only); exact InM.out) (fun _ _ => trivial))
      ·
        replace hS := it_t h38 hS
        refine VC.skip_to (fun _ _ h => h) ?_
        refine VC.seq ?_
        refine VC.seq ?_
        refine VC.region ?_
        refine VL.q (q_move rfl) (by decide) ?_
        refine VL.q (q_nilCheck rfl) (by decide) ?_
        refine VL.q (q_field gfa178_0 rfl) (by decide) ?_
        refine VL.q (q_fe gone175 rfl rfl) (by decide) ?_
        obtain ⟨y45_9, ey45_9, hS⟩ := bd_s hS
        refine VL.q (q_callR (codec_Dec_Left_ct q20_3_0 q24_5_1 ey45_9) rfl (fun _ _ => rfl)) (by decide) ?_
        refine VL.q (q_gtr rfl rfl) (by decide) ?_
        refine VL.to (fun _ _ h => h) ?_
        refine VC.keep [0, 2, 7, 46] rfl ?_
        refine VC.cond_dec rfl (fun h46 => ?_) (fun h46 => ?_)
        ·
          replace hS := it_t h46 hS
          refine VC.seq ?_
          refine VC.region ?_
          refine VL.q (q_build (vs := []) (cs := #[i64 0, .slice none 0 0, .slice none 0 0, i64 0, .slice none 0 0, i64 0, str []]) rfl (by kernel_rfl)) (by decide) ?_
          refine VL.q (q_mkif Tryz.underlying99 (fun _ h => by cases h) rfl) (by decide) ?_
          obtain ⟨y49_10, ey49_10, hS⟩ := bd_s hS
          refine VL.callF (object_fault_ct 0 (Er.no 2) ey49_10) rfl (by decide) ?_
          rintro q49_10_0 rfl
          try dsimp only
          refine VL.store (vc := [i64 0, .slice none 0 0, .slice none 0 0, i64 0, .slice none 0 0, i64 0, str []]) (cs' := [i64 0, .slice none 0 0, .slice none 0 0, i64 0, .slice none 0 0, i64 0, str []]) rfl rfl rfl gsz27 rfl rfl (Nat.le_of_ble_eq_true rfl) rfl ?_
          refine VL.q (q_assign rfl) (by decide) ?_
          refine VL.to (fun _ _ h => h) ?_
          cases hS
          exact VC.ret (finG (vs := [.agg #[i64 0, .slice none 0 0, .slice none 0 0, i64 0, .slice none 0 0, i64 0, str []], q49_10_0.val]) (.inr rfl) rfl (RVs.cell gagg27 rfl rfl Rd.blk (RVs.tmp rfl (RVs.nil))) (⟨0, ⟨none, 0, []⟩, ⟨none, 0, []⟩, 0, ⟨none, 0, []⟩, 0, []⟩, q49_10_0) rfl rfl (by (try dsimp only); exact InM.out) (fun _ _ => trivial))
        ·
          replace hS := it_f h46 hS
          refine VC.skip_to (fun _ _ h => h) ?_
          refine VC.seq ?_
          refine VC.region ?_
          refine VL.q (q_fes gagg27 rfl rfl) (by decide) ?_
          obtain ⟨y52_11, ey52_11, hS⟩ := bd_s hS
          refine VL.callO (object_Encode_ct q24_5_0 ey52_11) rfl (by decide) ?_
          rintro ⟨q52_11_0, q52_11_1⟩ rfl
          try dsimp only
          refine VL.q (q_move rfl) (by decide) ?_
          refine VL.q (q_extract rfl rfl) (by decide) ?_
          refine VL.q (q_extract rfl rfl) (by decide) ?_
          refine VL.q (q_assign rfl) (by decide) ?_
          refine VL.q (q_assign rfl) (by decide) ?_
          refine VL.to (fun _ _ h => h) ?_
          refine VC.seq ?_
          refine VC.seq ?_
          refine VC.region ?_
          refine VL.q (q_move rfl) (by decide) ?_
          refine VL.q (q_erne Tryz.underlying38 rfl) (by decide) ?_
          refine VL.to (fun _ _ h => h) ?_
          refine VC.keep [0, 2, 7, 9, 5, 56] rfl ?_
          refine VC.cond_ndec rfl (fun h56 => ?_) (fun h56 => ?_)
          ·
            replace hS := it_f h56 hS
            refine VC.seq ?_
            refine VC.region ?_
            refine VL.q (q_build (vs := []) (cs := #[i64 0, .slice none 0 0, .slice none 0 0, i64 0, .slice none 0 0, i64 0, str []]) rfl (by kernel_rfl)) (by decide) ?_
            refine VL.q (q_move rfl) (by decide) ?_
            refine VL.store (vc := [i64 0, .slice none 0 0, .slice none 0 0, i64 0, .slice none 0 0, i64 0, str []]) (cs' := [i64 0, .slice none 0 0, .slice none 0 0, i64 0, .slice none 0 0, i64 0, str []]) rfl rfl rfl gsz27 rfl rfl (Nat.le_of_ble_eq_true rfl) rfl ?_
            refine VL.q (q_assign rfl) (by decide) ?_
            refine VL.to (fun _ _ h => h) ?_
            cases hS
            exact VC.ret (finG (vs := [.agg #[i64 0, .slice none 0 0, .slice none 0 0, i64 0, .slice none 0 0, i64 0, str []], q52_11_1.val]) (.inr rfl) rfl (RVs.cell gagg27 rfl rfl Rd.blk (RVs.tmp rfl (RVs.nil))) (⟨0, ⟨none, 0, []⟩, ⟨none, 0, []⟩, 0, ⟨none, 0, []⟩, 0, []⟩, q52_11_1) rfl rfl (by (try dsimp only); exact InM.out) (fun _ _ => trivial))
          ·
            replace hS := it_t h56 hS
            refine VC.skip_to (fun _ _ h => h) ?_
            refine VC.seq ?_
            refine VC.seq ?_
            refine VC.region ?_
            refine VL.q (q_move rfl) (by decide) ?_
            refine VL.q (q_move rfl) (by decide) ?_
            obtain ⟨y61_12, ey61_12, hS⟩ := bd_s hS
            refine VL.q (q_callR (bytes_Equal_ct q52_11_0 b_0 ey61_12) rfl (fun _ _ => rfl)) (by decide) ?_
            refine VL.q (q_not rfl) (by decide) ?_
            refine VL.to (fun _ _ h => h) ?_
            refine VC.cond rfl (fun h62 => ?_) (fun h62 => ?_)
            ·
              replace hS := it_t h62 hS
              refine VC.seq ?_
              refine VC.region ?_
              refine VL.q (q_build (vs := []) (cs := #[i64 0, .slice none 0 0, .slice none 0 0, i64 0, .slice none 0 0, i64 0, str []]) rfl (by kernel_rfl)) (by decide) ?_
              refine VL.q (q_mkif Tryz.underlying99 (fun _ h => by cases h) rfl) (by decide) ?_
              obtain ⟨y65_13, ey65_13, hS⟩ := bd_s hS
              refine VL.callF (object_fault_ct 0 (Er.no 2) ey65_13) rfl (by decide) ?_
              rintro q65_13_0 rfl
              try dsimp only
              refine VL.store (vc := [i64 0, .slice none 0 0, .slice none 0 0, i64 0, .slice none 0 0, i64 0, str []]) (cs' := [i64 0, .slice none 0 0, .slice none 0 0, i64 0, .slice none 0 0, i64 0, str []]) rfl rfl rfl gsz27 rfl rfl (Nat.le_of_ble_eq_true rfl) rfl ?_
              refine VL.q (q_assign rfl) (by decide) ?_
              refine VL.to (fun _ _ h => h) ?_
              refine VC.keep [2, 3] rfl ?_
              cases hS
              exact VC.ret (finG (vs := [.agg #[i64 0, .slice none 0 0, .slice none 0 0, i64 0, .slice none 0 0, i64 0, str []], q65_13_0.val]) (.inr rfl) rfl (RVs.cell gagg27 rfl rfl Rd.blk (RVs.tmp rfl (RVs.nil))) (⟨0, ⟨none, 0, []⟩, ⟨none, 0, []⟩, 0, ⟨none, 0, []⟩, 0, []⟩, q65_13_0) rfl rfl (by (try dsimp only); exact InM.out) (fun _ _ => trivial))
            ·
              replace hS := it_b h62 hS
              refine VC.skip_to (fun _ _ h => h) ?_
              refine VC.seq ?_
              refine VC.region ?_
              refine VL.q (q_fes gagg27 rfl rfl) (by decide) ?_
              refine VL.store (vc := [i64 q24_5_0.kind, q24_5_0.data.val, q24_5_0.items.val, i64 q24_5_0.tree, q24_5_0.parents.val, i64 q24_5_0.time, str q24_5_0.text]) (cs' := [i64 q24_5_0.kind, q24_5_0.data.val, q24_5_0.items.val, i64 q24_5_0.tree, q24_5_0.parents.val, i64 q24_5_0.time, str q24_5_0.text]) rfl rfl rfl gsz27 rfl rfl (Nat.le_of_ble_eq_true rfl) rfl ?_
              refine VL.q (q_assign rfl) (by decide) ?_
              refine VL.to (fun _ _ h => h) ?_
              refine VC.keep [2, 3] rfl ?_
              cases hS
              exact VC.ret (finG (vs := [.agg #[i64 q24_5_0.kind, q24_5_0.data.val, q24_5_0.items.val, i64 q24_5_0.tree, q24_5_0.parents.val, i64 q24_5_0.time, str q24_5_0.text], .nilIface]) (.inr rfl) rfl (RVs.cell gagg27 rfl rfl Rd.blk (RVs.tmp rfl (RVs.nil))) (⟨q24_5_0.kind, q24_5_0.data, q24_5_0.items, q24_5_0.tree, q24_5_0.parents, q24_5_0.time, q24_5_0.text⟩, .nil) rfl rfl (by (try dsimp only); exact InM.out) (fun _ _ => trivial))

set_option maxHeartbeats 4000000 in
set_option maxRecDepth 100000 in
theorem slices_Equal_object_Item_object_Item_ct (s1_0 : Sv ObjectItem) (s2_1 : Sv ObjectItem) {r : Bool} (hS : Sh.slices_Equal_object_Item_object_Item s1_0.l s2_1.l = some r) :
    Ct Tryz.prog 114 [s1_0.val, s2_1.val] (s1_0.ok.and s2_1.ok) (Ow.emp) (X := Unit) (fun _ => .bool r) (fun _ => True) (fun _ => Mo.tt) (fun _ => Ow.emp) := by
  refine Ct.of Tryz.func114 rfl (by kernel_rfl) Tryz.ntmps114 (by simp) fun c => ?_
  unfold Sh.slices_Equal_object_Item_object_Item at hS
  refine VC.seq ?_
  refine VC.region ?_
  refine VL.q (q_assign rfl) (by decide) ?_
  refine VL.to (fun _ _ h => h) ?_
  refine VC.seq ?_
  refine VC.seq ?_
  refine VC.region ?_
  refine VL.q (q_move rfl) (by decide) ?_
  refine VL.q (q_ln (s := s1_0) Tryz.underlying24 rfl) (by decide) ?_
  refine VL.q (q_move rfl) (by decide) ?_
  refine VL.q (q_ln (s := s2_1) Tryz.underlying24 rfl) (by decide) ?_
  refine VL.q (q_neq rfl rfl) (by decide) ?_
  refine VL.to (fun _ _ h => h) ?_
  refine VC.cond_ndec rfl (fun h10 => ?_) (fun h10 => ?_)
  ·
    replace hS := it_f h10 hS
    refine VC.seq ?_
    refine VC.region ?_
    refine VL.q (q_assign rfl) (by decide) ?_
    refine VL.to (fun _ _ h => h) ?_
    cases hS
    exact VC.ret (fin1 (.inr rfl) rfl rfl () rfl trivial (fun _ _ => trivial) (fun _ _ => trivial))
  ·
    replace hS := it_t h10 hS
    refine VC.skip_to (fun _ _ h => h) ?_
    refine VC.seq ?_
    refine VC.seq ?_
    refine VC.region ?_
    refine VL.q (q_move rfl) (by decide) ?_
    refine VL.q (q_ln (s := s1_0) Tryz.underlying24 rfl) (by decide) ?_
    refine VL.q (q_move rfl) (by decide) ?_
    refine VL.to (fun _ _ h => h) ?_
    refine VC.keep [0, 1, 12, 13] rfl ?_
    refine VC.block ?_
    refine VC.iter (S := Int) (fun (x13_1 : Int) => x13_1) (fun (x13_1 : Int) => [(0, s1_0.val), (1, s2_1.val), (12, i64 (s1_0.l.length : Int)), (13, i64 x13_1)]) (fun (x13_1 : Int) => Mo.tt) (fun (x13_1 : Int) => Ow.emp) 0 [0, 1, 12, 13] hS rfl ?_
    clear hS
    rintro x13_1 m1 y1 hS hK1
    show VC _ _ _ _ _ [(0, s1_0.val), (1, s2_1.val), (12, i64 (s1_0.l.length : Int)), (13, i64 x13_1)] (Mo.and Mo.tt _) (Ow.emp)
    refine VC.seq ?_
    refine VC.region ?_
    refine VL.q (q_lss rfl rfl) (by decide) ?_
    refine VL.to (fun _ _ h => h) ?_
    refine VC.seq ?_
    refine VC.cond_dec rfl (fun h14 => ?_) (fun h14 => ?_)
    ·
      replace hS := it_t h14 hS
      refine VC.skip_to (fun _ _ h => h) ?_
      refine VC.seq ?_
      refine VC.block ?_
      refine VC.seq ?_
      refine VC.region ?_
      refine VL.q (q_move rfl) (by decide) ?_
      refine VL.q (q_assign rfl) (by decide) ?_
      refine VL.to (fun _ _ h => h) ?_
      refine VC.seq ?_
      refine VC.draw ((List.range 9).map fun k => (k, true)) mixed (by kernel_rfl) (by kernel_rfl) (by kernel_rfl) ?_
      refine VD.q rfl (q_move rfl) (by decide) ?_
      refine VD.q rfl (q_move rfl) (by decide) ?_
      obtain ⟨z18_2, nz18_2, hz18_2, hS⟩ := at_s hS
      refine VD.q rfl (q_ixm (s := s1_0) Tryz.underlying24 gsz29 rfl rfl nz18_2 (lt_of_get nz18_2 hz18_2)) (by decide) ?_
      refine VD.q rfl (q_els (s := s1_0) gagg29 rfl rfl hz18_2) (by decide) ?_
      refine VD.q rfl (q_move rfl) (by decide) ?_
      refine VD.q rfl (q_move rfl) (by decide) ?_
      obtain ⟨z22_3, nz22_3, hz22_3, hS⟩ := at_s hS
      refine VD.q rfl (q_ixm (s := s2_1) Tryz.underlying24 gsz29 rfl rfl nz22_3 (lt_of_get nz22_3 hz22_3)) (by decide) ?_
      refine VD.q rfl (q_els (s := s2_1) gagg29 rfl rfl hz22_3) (by decide) ?_
      refine VD.q rfl (q_stneq geqg29 (geqs29 z18_2.path z18_2.mode z18_2.blob z22_3.path z22_3.mode z22_3.blob) rfl rfl) (by decide) ?_
      refine VD.to (fun _ _ h => h) ?_
      refine VC.keep [0, 1, 12, 13, 24] rfl ?_
      refine VC.cond_ndec rfl (fun h24 => ?_) (fun h24 => ?_)
      ·
        replace hS := it_f h24 hS
        refine VC.seq ?_
        refine VC.region ?_
        refine VL.q (q_assign rfl) (by decide) ?_
        refine VL.to (fun _ _ h => h) ?_
        replace hS := up2 hS hK1
        cases hS
        exact VC.ret (fin1 (.inr rfl) rfl rfl () rfl trivial (fun _ _ => trivial) (fun _ _ => trivial))
      ·
        replace hS := it_t h24 hS
        refine VC.skip_to (fun _ _ h => h) ?_
        refine VC.region ?_
        obtain ⟨b25, hS⟩ := gd_s hS
        refine VL.q (q_add rfl rfl b25) (by decide) ?_
        refine VL.q (q_move rfl) (by decide) ?_
        refine VL.rnd (x13_1 + 1) [0, 1, 12, 13] (fun _ _ h => h) (go2 hS hK1) rfl
    ·
      replace hS := it_f h14 hS
      replace hS := up2 hS hK1
      refine VC.exit_to (fun _ _ h => h) ?_
      refine VC.seq ?_
      refine VC.region ?_
      refine VL.q (q_assign rfl) (by decide) ?_
      refine VL.to (fun _ _ h => h) ?_
      cases hS
      exact VC.ret (fin1 (.inr rfl) rfl rfl () rfl trivial (fun _ _ => trivial) (fun _ _ => trivial))

set_option maxHeartbeats 4000000 in
set_option maxRecDepth 100000 in
theorem slices_Equal_int_int_ct (s1_0 : Sv Int) (s2_1 : Sv Int) {r : Bool} (hS : Sh.slices_Equal_int_int s1_0.l s2_1.l = some r) :
    Ct Tryz.prog 115 [s1_0.val, s2_1.val] (s1_0.ok.and s2_1.ok) (Ow.emp) (X := Unit) (fun _ => .bool r) (fun _ => True) (fun _ => Mo.tt) (fun _ => Ow.emp) := by
  refine Ct.of Tryz.func115 rfl (by kernel_rfl) Tryz.ntmps115 (by simp) fun c => ?_
  unfold Sh.slices_Equal_int_int at hS
  refine VC.seq ?_
  refine VC.region ?_
  refine VL.q (q_assign rfl) (by decide) ?_
  refine VL.to (fun _ _ h => h) ?_
  refine VC.seq ?_
  refine VC.seq ?_
  refine VC.region ?_
  refine VL.q (q_move rfl) (by decide) ?_
  refine VL.q (q_ln (s := s1_0) Tryz.underlying25 rfl) (by decide) ?_
  refine VL.q (q_move rfl) (by decide) ?_
  refine VL.q (q_ln (s := s2_1) Tryz.underlying25 rfl) (by decide) ?_
  refine VL.q (q_neq rfl rfl) (by decide) ?_
  refine VL.to (fun _ _ h => h) ?_
  refine VC.cond_ndec rfl (fun h10 => ?_) (fun h10 => ?_)
  ·
    replace hS := it_f h10 hS
    refine VC.seq ?_
    refine VC.region ?_
    refine VL.q (q_assign rfl) (by decide) ?_
    refine VL.to (fun _ _ h => h) ?_
    cases hS
    exact VC.ret (fin1 (.inr rfl) rfl rfl () rfl trivial (fun _ _ => trivial) (fun _ _ => trivial))
  ·
    replace hS := it_t h10 hS
    refine VC.skip_to (fun _ _ h => h) ?_
    refine VC.seq ?_
    refine VC.seq ?_
    refine VC.region ?_
    refine VL.q (q_move rfl) (by decide) ?_
    refine VL.q (q_ln (s := s1_0) Tryz.underlying25 rfl) (by decide) ?_
    refine VL.q (q_move rfl) (by decide) ?_
    refine VL.to (fun _ _ h => h) ?_
    refine VC.keep [0, 1, 12, 13] rfl ?_
    refine VC.block ?_
    refine VC.iter (S := Int) (fun (x13_1 : Int) => x13_1) (fun (x13_1 : Int) => [(0, s1_0.val), (1, s2_1.val), (12, i64 (s1_0.l.length : Int)), (13, i64 x13_1)]) (fun (x13_1 : Int) => Mo.tt) (fun (x13_1 : Int) => Ow.emp) 0 [0, 1, 12, 13] hS rfl ?_
    clear hS
    rintro x13_1 m1 y1 hS hK1
    show VC _ _ _ _ _ [(0, s1_0.val), (1, s2_1.val), (12, i64 (s1_0.l.length : Int)), (13, i64 x13_1)] (Mo.and Mo.tt _) (Ow.emp)
    refine VC.seq ?_
    refine VC.region ?_
    refine VL.q (q_lss rfl rfl) (by decide) ?_
    refine VL.to (fun _ _ h => h) ?_
    refine VC.seq ?_
    refine VC.cond_dec rfl (fun h14 => ?_) (fun h14 => ?_)
    ·
      replace hS := it_t h14 hS
      refine VC.skip_to (fun _ _ h => h) ?_
      refine VC.seq ?_
      refine VC.block ?_
      refine VC.seq ?_
      refine VC.region ?_
      refine VL.q (q_move rfl) (by decide) ?_
      refine VL.q (q_assign rfl) (by decide) ?_
      refine VL.to (fun _ _ h => h) ?_
      refine VC.seq ?_
      refine VC.draw ((List.range 9).map fun k => (k, true)) mixed (by kernel_rfl) (by kernel_rfl) (by kernel_rfl) ?_
      refine VD.q rfl (q_move rfl) (by decide) ?_
      refine VD.q rfl (q_move rfl) (by decide) ?_
      obtain ⟨z18_2, nz18_2, hz18_2, hS⟩ := at_s hS
      refine VD.q rfl (q_ixm (s := s1_0) Tryz.underlying25 gsz3 rfl rfl nz18_2 (lt_of_get nz18_2 hz18_2)) (by decide) ?_
      refine VD.q rfl (q_el (s := s1_0) gone3 rfl hz18_2 rfl) (by decide) ?_
      refine VD.q rfl (q_move rfl) (by decide) ?_
      refine VD.q rfl (q_move rfl) (by decide) ?_
      obtain ⟨z22_3, nz22_3, hz22_3, hS⟩ := at_s hS
      refine VD.q rfl (q_ixm (s := s2_1) Tryz.underlying25 gsz3 rfl rfl nz22_3 (lt_of_get nz22_3 hz22_3)) (by decide) ?_
      refine VD.q rfl (q_el (s := s2_1) gone3 rfl hz22_3 rfl) (by decide) ?_
      refine VD.q rfl (q_neq rfl rfl) (by decide) ?_
      refine VD.to (fun _ _ h => h) ?_
      refine VC.keep [0, 1, 12, 13, 24] rfl ?_
      refine VC.cond_ndec rfl (fun h24 => ?_) (fun h24 => ?_)
      ·
        replace hS := it_f h24 hS
        refine VC.seq ?_
        refine VC.region ?_
        refine VL.q (q_assign rfl) (by decide) ?_
        refine VL.to (fun _ _ h => h) ?_
        replace hS := up2 hS hK1
        cases hS
        exact VC.ret (fin1 (.inr rfl) rfl rfl () rfl trivial (fun _ _ => trivial) (fun _ _ => trivial))
      ·
        replace hS := it_t h24 hS
        refine VC.skip_to (fun _ _ h => h) ?_
        refine VC.region ?_
        obtain ⟨b25, hS⟩ := gd_s hS
        refine VL.q (q_add rfl rfl b25) (by decide) ?_
        refine VL.q (q_move rfl) (by decide) ?_
        refine VL.rnd (x13_1 + 1) [0, 1, 12, 13] (fun _ _ h => h) (go2 hS hK1) rfl
    ·
      replace hS := it_f h14 hS
      replace hS := up2 hS hK1
      refine VC.exit_to (fun _ _ h => h) ?_
      refine VC.seq ?_
      refine VC.region ?_
      refine VL.q (q_assign rfl) (by decide) ?_
      refine VL.to (fun _ _ h => h) ?_
      cases hS
      exact VC.ret (fin1 (.inr rfl) rfl rfl () rfl trivial (fun _ _ => trivial) (fun _ _ => trivial))

set_option maxHeartbeats 4000000 in
set_option maxRecDepth 100000 in
theorem object_Same_ct (a_0 : ObjectObject) (b_1 : ObjectObject) {r : Bool} (hS : Sh.object_Same a_0.pl b_1.pl = some r) :
    Ct Tryz.prog 43 [.agg #[i64 a_0.kind, a_0.data.val, a_0.items.val, i64 a_0.tree, a_0.parents.val, i64 a_0.time, str a_0.text], .agg #[i64 b_1.kind, b_1.data.val, b_1.items.val, i64 b_1.tree, b_1.parents.val, i64 b_1.time, str b_1.text]] (a_0.data.ok.and (a_0.items.ok.and (a_0.parents.ok.and (b_1.data.ok.and (b_1.items.ok.and b_1.parents.ok))))) (Ow.emp) (X := Unit) (fun _ => .bool r) (fun _ => True) (fun _ => Mo.tt) (fun _ => Ow.emp) := by
  refine Ct.of Tryz.func43 rfl (by kernel_rfl) Tryz.ntmps43 (by simp) fun c => ?_
  unfold Sh.object_Same at hS
  refine VC.seq ?_
  refine VC.region ?_
  refine VL.box (cs := [i64 a_0.kind, a_0.data.val, a_0.items.val, i64 a_0.tree, a_0.parents.val, i64 a_0.time, str a_0.text]) rfl rfl (by decide) fun b2_1 => ?_
  refine VL.box (cs := [i64 b_1.kind, b_1.data.val, b_1.items.val, i64 b_1.tree, b_1.parents.val, i64 b_1.time, str b_1.text]) rfl rfl (by decide) fun b3_2 => ?_
  refine VL.q (q_assign rfl) (by decide) ?_
  refine VL.to (fun _ _ h => h) ?_
  refine VC.seq ?_
  refine VC.seq ?_
  refine VC.region ?_
  refine VL.q (q_field gfa27_0 rfl) (by decide) ?_
  refine VL.q (q_fe gone3 rfl rfl) (by decide) ?_
  refine VL.q (q_field gfa27_0 rfl) (by decide) ?_
  refine VL.q (q_fe gone3 rfl rfl) (by decide) ?_
  refine VL.q (q_neq rfl rfl) (by decide) ?_
  refine VL.to (fun _ _ h => h) ?_
  refine VC.cond_ndec rfl (fun h9 => ?_) (fun h9 => ?_)
  ·
    replace hS := it_f h9 hS
    refine VC.seq ?_
    refine VC.region ?_
    refine VL.q (q_assign rfl) (by decide) ?_
    refine VL.to (fun _ _ h => h) ?_
    cases hS
    exact VC.ret (fin1 (.inr rfl) rfl rfl () rfl trivial (fun _ _ => trivial) (fun _ _ => trivial))
  ·
    replace hS := it_t h9 hS
    refine VC.skip_to (fun _ _ h => h) ?_
    refine VC.seq ?_
    refine VC.seq ?_
    refine VC.region ?_
    refine VL.q (q_field gfa27_0 rfl) (by decide) ?_
    refine VL.q (q_fe gone3 rfl rfl) (by decide) ?_
    refine VL.to (fun _ _ h => h) ?_
    refine VC.keep [2, 3, 11] rfl ?_
    refine VC.block ?_
    refine VC.seq ?_
    refine VC.region ?_
    refine VL.q (q_eql rfl rfl) (by decide) ?_
    refine VL.q (q_assign rfl) (by decide) ?_
    refine VL.to (fun _ _ h => h) ?_
    refine VC.cond_dec rfl (fun h12 => ?_) (fun h12 => ?_)
    ·
      replace hS := it_t h12 hS
      refine VC.seq ?_
      refine VC.region ?_
      refine VL.q (q_field gfa27_1 rfl) (by decide) ?_
      refine VL.q (q_fe gone23 rfl rfl) (by decide) ?_
      refine VL.q (q_field gfa27_1 rfl) (by decide) ?_
      refine VL.q (q_fe gone23 rfl rfl) (by decide) ?_
      obtain ⟨y18_3, ey18_3, hS⟩ := bd_s hS
      refine VL.q (q_call (bytes_Equal_ct a_0.data b_1.data ey18_3) rfl (fun _ _ => rfl)) (by decide) ?_
      refine VL.q (q_assign rfl) (by decide) ?_
      refine VL.to (fun _ _ h => h) ?_
      refine VC.keep [4] rfl ?_
      cases hS
      exact VC.ret (fin1 (.inr rfl) rfl rfl () rfl trivial (fun _ _ => trivial) (fun _ _ => trivial))
    ·
      replace hS := it_f h12 hS
      refine VC.seq ?_
      refine VC.region ?_
      refine VL.q (q_eql rfl rfl) (by decide) ?_
      refine VL.q (q_assign rfl) (by decide) ?_
      refine VL.to (fun _ _ h => h) ?_
      refine VC.cond_dec rfl (fun h19 => ?_) (fun h19 => ?_)
      ·
        replace hS := it_t h19 hS
        refine VC.seq ?_
        refine VC.region ?_
        refine VL.q (q_field gfa27_2 rfl) (by decide) ?_
        refine VL.q (q_fe gone24 rfl rfl) (by decide) ?_
        refine VL.q (q_field gfa27_2 rfl) (by decide) ?_
        refine VL.q (q_fe gone24 rfl rfl) (by decide) ?_
        obtain ⟨y25_4, ey25_4, hS⟩ := bd_s hS
        refine VL.q (q_call (slices_Equal_object_Item_object_Item_ct a_0.items b_1.items ey25_4) rfl (fun _ _ => rfl)) (by decide) ?_
        refine VL.q (q_assign rfl) (by decide) ?_
        refine VL.to (fun _ _ h => h) ?_
        refine VC.keep [4] rfl ?_
        cases hS
        exact VC.ret (fin1 (.inr rfl) rfl rfl () rfl trivial (fun _ _ => trivial) (fun _ _ => trivial))
      ·
        replace hS := it_f h19 hS
        refine VC.seq ?_
        refine VC.region ?_
        refine VL.q (q_eql rfl rfl) (by decide) ?_
        refine VL.q (q_assign rfl) (by decide) ?_
        refine VL.to (fun _ _ h => h) ?_
        refine VC.cond_dec rfl (fun h26 => ?_) (fun h26 => ?_)
        ·
          replace hS := it_t h26 hS
          refine VC.seq ?_
          refine VC.region ?_
          refine VL.q (q_field gfa27_3 rfl) (by decide) ?_
          refine VL.q (q_fe gone3 rfl rfl) (by decide) ?_
          refine VL.q (q_field gfa27_3 rfl) (by decide) ?_
          refine VL.q (q_fe gone3 rfl rfl) (by decide) ?_
          refine VL.q (q_eql rfl rfl) (by decide) ?_
          refine VL.q (q_move rfl) (by decide) ?_
          refine VL.split_dec 33 rfl (fun h33 => ?_) (fun h33 => ?_)
          ·
            replace hS := it_t h33 hS
            refine VL.gy rfl rfl (q_field gfa27_4 rfl) (by decide) ?_
            refine VL.gy rfl rfl (q_fe gone25 rfl rfl) (by decide) ?_
            refine VL.gy rfl rfl (q_field gfa27_4 rfl) (by decide) ?_
            refine VL.gy rfl rfl (q_fe gone25 rfl rfl) (by decide) ?_
            obtain ⟨y38_5, ey38_5, hS⟩ := bd_s hS
            refine VL.gy rfl rfl (q_call (slices_Equal_int_int_ct a_0.parents b_1.parents ey38_5) rfl (fun _ _ => rfl)) (by decide) ?_
            refine VL.q (q_pick_t rfl rfl) (by decide) ?_
            refine VL.q (q_move rfl) (by decide) ?_
            refine VL.split 40 rfl (fun h40 => ?_) (fun h40 => ?_)
            ·
              replace hS := it_t h40 hS
              refine VL.gy rfl rfl (q_field gfa27_5 rfl) (by decide) ?_
              refine VL.gy rfl rfl (q_fe gone3 rfl rfl) (by decide) ?_
              refine VL.gy rfl rfl (q_field gfa27_5 rfl) (by decide) ?_
              refine VL.gy rfl rfl (q_fe gone3 rfl rfl) (by decide) ?_
              refine VL.gy rfl rfl (q_eql rfl rfl) (by decide) ?_
              refine VL.q (q_pick_t rfl rfl) (by decide) ?_
              refine VL.q (q_move rfl) (by decide) ?_
              refine VL.split_dec 47 rfl (fun h47 => ?_) (fun h47 => ?_)
              ·
                replace hS := it_t h47 hS
                refine VL.gy rfl rfl (q_field gfa27_6 rfl) (by decide) ?_
                refine VL.gy rfl rfl (q_fe gone9 rfl rfl) (by decide) ?_
                refine VL.gy rfl rfl (q_field gfa27_6 rfl) (by decide) ?_
                refine VL.gy rfl rfl (q_fe gone9 rfl rfl) (by decide) ?_
                refine VL.gy rfl rfl (q_seq rfl rfl) (by decide) ?_
                refine VL.q (q_pick_t rfl rfl) (by decide) ?_
                refine VL.q (q_assign rfl) (by decide) ?_
                refine VL.to (fun _ _ h => h) ?_
                refine VC.keep [4] rfl ?_
                cases hS
                exact VC.ret (fin1 (.inr rfl) rfl rfl () rfl trivial (fun _ _ => trivial) (fun _ _ => trivial))
              ·
                replace hS := it_f h47 hS
                refine VL.gn rfl rfl rfl (by decide) ?_
                refine VL.gn rfl rfl rfl (by decide) ?_
                refine VL.gn rfl rfl rfl (by decide) ?_
                refine VL.gn rfl rfl rfl (by decide) ?_
                refine VL.gn rfl rfl rfl (by decide) ?_
                refine VL.q (q_pick_f rfl rfl) (by decide) ?_
                refine VL.q (q_assign rfl) (by decide) ?_
                refine VL.to (fun _ _ h => h) ?_
                refine VC.keep [4] rfl ?_
                cases hS
                exact VC.ret (fin1 (.inr rfl) rfl rfl () rfl trivial (fun _ _ => trivial) (fun _ _ => trivial))
            ·
              replace hS := it_b h40 hS
              refine VL.gn rfl rfl rfl (by decide) ?_
              refine VL.gn rfl rfl rfl (by decide) ?_
              refine VL.gn rfl rfl rfl (by decide) ?_
              refine VL.gn rfl rfl rfl (by decide) ?_
              refine VL.gn rfl rfl rfl (by decide) ?_
              refine VL.q (q_pick_f rfl rfl) (by decide) ?_
              refine VL.q (q_move rfl) (by decide) ?_
              refine VL.gn rfl rfl rfl (by decide) ?_
              refine VL.gn rfl rfl rfl (by decide) ?_
              refine VL.gn rfl rfl rfl (by decide) ?_
              refine VL.gn rfl rfl rfl (by decide) ?_
              refine VL.gn rfl rfl rfl (by decide) ?_
              refine VL.q (q_pick_f rfl rfl) (by decide) ?_
              refine VL.q (q_assign rfl) (by decide) ?_
              refine VL.to (fun _ _ h => h) ?_
              refine VC.keep [4] rfl ?_
              cases hS
              exact VC.ret (fin1 (.inr rfl) rfl rfl () rfl trivial (fun _ _ => trivial) (fun _ _ => trivial))
          ·
            replace hS := it_f h33 hS
            refine VL.gn rfl rfl rfl (by decide) ?_
            refine VL.gn rfl rfl rfl (by decide) ?_
            refine VL.gn rfl rfl rfl (by decide) ?_
            refine VL.gn rfl rfl rfl (by decide) ?_
            refine VL.gn rfl rfl rfl (by decide) ?_
            refine VL.q (q_pick_f rfl rfl) (by decide) ?_
            refine VL.q (q_move rfl) (by decide) ?_
            refine VL.gn rfl rfl rfl (by decide) ?_
            refine VL.gn rfl rfl rfl (by decide) ?_
            refine VL.gn rfl rfl rfl (by decide) ?_
            refine VL.gn rfl rfl rfl (by decide) ?_
            refine VL.gn rfl rfl rfl (by decide) ?_
            refine VL.q (q_pick_f rfl rfl) (by decide) ?_
            refine VL.q (q_move rfl) (by decide) ?_
            refine VL.gn rfl rfl rfl (by decide) ?_
            refine VL.gn rfl rfl rfl (by decide) ?_
            refine VL.gn rfl rfl rfl (by decide) ?_
            refine VL.gn rfl rfl rfl (by decide) ?_
            refine VL.gn rfl rfl rfl (by decide) ?_
            refine VL.q (q_pick_f rfl rfl) (by decide) ?_
            refine VL.q (q_assign rfl) (by decide) ?_
            refine VL.to (fun _ _ h => h) ?_
            refine VC.keep [4] rfl ?_
            cases hS
            exact VC.ret (fin1 (.inr rfl) rfl rfl () rfl trivial (fun _ _ => trivial) (fun _ _ => trivial))
        ·
          replace hS := it_f h26 hS
          refine VC.skip_to (fun _ _ h => h) ?_
          refine VC.seq ?_
          refine VC.region ?_
          refine VL.q (q_assign rfl) (by decide) ?_
          refine VL.to (fun _ _ h => h) ?_
          cases hS
          exact VC.ret (fin1 (.inr rfl) rfl rfl () rfl trivial (fun _ _ => trivial) (fun _ _ => trivial))

set_option maxHeartbeats 4000000 in
set_option maxRecDepth 100000 in
theorem rectolaw7_known_ct  {r : Bool} (hS : Sh.rectolaw7_known = some r) :
    Ct Tryz.prog 8 [] Mo.tt (Ow.emp) (X := Unit) (fun _ => .bool r) (fun _ => True) (fun _ => Mo.tt) (fun _ => Ow.emp) := by
  refine Ct.of Tryz.func8 rfl (by kernel_rfl) Tryz.ntmps8 (by simp) fun c => ?_
  unfold Sh.rectolaw7_known at hS
  refine VC.seq ?_
  refine VC.region ?_
  refine VL.q (q_assign rfl) (by decide) ?_
  refine VL.to (fun _ _ h => h) ?_
  refine VC.seq ?_
  refine VC.region ?_
  refine VL.q (q_build (vs := [(0, str [97]), (1, i64 1), (2, i64 3)]) (cs := #[str [97], i64 1, i64 3]) rfl (by kernel_rfl)) (by decide) ?_
  refine VL.lit (α := ObjectItem) (xs := [.tmp 8]) (vs := [.agg #[str [97], i64 1, i64 3]]) [⟨[97], 1, 3⟩] Tryz.underlying24 glit29 (by decide) rfl rfl rfl rfl (by decide) (fun _ _ _ _ => trivial) (by decide) (fun s9_1 hs9_1 => ?_) (by decide)
  replace hS := lt_to hs9_1 hS
  refine VL.q (q_build (vs := [(0, i64 2), (2, s9_1.val)]) (cs := #[i64 2, .slice none 0 0, s9_1.val, i64 0, .slice none 0 0, i64 0, str []]) rfl (by kernel_rfl)) (by decide) ?_
  refine VL.alloc (cs := [i64 0, .slice none 0 0, .slice none 0 0, i64 0, .slice none 0 0, i64 0, str []]) (by kernel_rfl) (by decide) fun b1_3 => ?_
  refine VL.store (vc := [i64 2, .slice none 0 0, s9_1.val, i64 0, .slice none 0 0, i64 0, str []]) (cs' := [i64 2, .slice none 0 0, s9_1.val, i64 0, .slice none 0 0, i64 0, str []]) rfl rfl rfl gsz27 rfl rfl (Nat.le_of_ble_eq_true rfl) rfl ?_
  refine VL.to (fun _ _ h => h) ?_
  refine VC.seq ?_
  refine VC.region ?_
  refine VL.q (q_fes gagg27 rfl rfl) (by decide) ?_
  obtain ⟨y13_4, ey13_4, hS⟩ := bd_s hS
  refine VL.callO (object_Encode_ct (⟨2, ⟨none, 0, []⟩, s9_1, 0, ⟨none, 0, []⟩, 0, []⟩ : ObjectObject) ey13_4) rfl (by decide) ?_
  rintro ⟨q13_4_0, q13_4_1⟩ rfl
  try dsimp only
  refine VL.q (q_move rfl) (by decide) ?_
  refine VL.q (q_extract rfl rfl) (by decide) ?_
  refine VL.q (q_extract rfl rfl) (by decide) ?_
  refine VL.q (q_assign rfl) (by decide) ?_
  refine VL.q (q_assign rfl) (by decide) ?_
  refine VL.to (fun _ _ h => h) ?_
  refine VC.keep [1, 2, 3] rfl ?_
  refine VC.seq ?_
  refine VC.region ?_
  refine VL.q (q_move rfl) (by decide) ?_
  refine VL.shut q13_4_0 5 (fun _ _ _ _ => trivial) ?_
  obtain ⟨y18_5, ey18_5, hS⟩ := bd_s hS
  refine VL.callF (object_Decode_ct q13_4_0 ey18_5) rfl (by decide) ?_
  rintro ⟨q18_5_0, q18_5_1⟩ rfl
  try dsimp only
  refine VL.q (q_move rfl) (by decide) ?_
  refine VL.q (q_extract rfl rfl) (by decide) ?_
  refine VL.q (q_extract rfl rfl) (by decide) ?_
  refine VL.alloc (cs := [i64 0, .slice none 0 0, .slice none 0 0, i64 0, .slice none 0 0, i64 0, str []]) (by kernel_rfl) (by decide) fun b4_6 => ?_
  refine VL.store (vc := [i64 q18_5_0.kind, q18_5_0.data.val, q18_5_0.items.val, i64 q18_5_0.tree, q18_5_0.parents.val, i64 q18_5_0.time, str q18_5_0.text]) (cs' := [i64 q18_5_0.kind, q18_5_0.data.val, q18_5_0.items.val, i64 q18_5_0.tree, q18_5_0.parents.val, i64 q18_5_0.time, str q18_5_0.text]) rfl rfl rfl gsz27 rfl rfl (Nat.le_of_ble_eq_true rfl) rfl ?_
  refine VL.q (q_assign rfl) (by decide) ?_
  refine VL.to (fun _ _ h => h) ?_
  refine VC.seq ?_
  refine VC.region ?_
  refine VL.q (q_build (vs := []) (cs := #[i64 0, .slice none 0 0, .slice none 0 0, i64 0, .slice none 0 0, i64 0, str []]) rfl (by kernel_rfl)) (by decide) ?_
  obtain ⟨y23_7, ey23_7, hS⟩ := bd_s hS
  refine VL.callO (object_Encode_ct (⟨0, ⟨none, 0, []⟩, ⟨none, 0, []⟩, 0, ⟨none, 0, []⟩, 0, []⟩ : ObjectObject) ey23_7) rfl (by decide) ?_
  rintro ⟨q23_7_0, q23_7_1⟩ rfl
  try dsimp only
  refine VL.q (q_move rfl) (by decide) ?_
  refine VL.q (q_extract rfl rfl) (by decide) ?_
  refine VL.q (q_extract rfl rfl) (by decide) ?_
  refine VL.q (q_assign rfl) (by decide) ?_
  refine VL.q (q_assign rfl) (by decide) ?_
  refine VL.to (fun _ _ h => h) ?_
  refine VC.keep [1, 3, 4, 5, 7] rfl ?_
  refine VC.seq ?_
  refine VC.region ?_
  refine VL.q (q_move rfl) (by decide) ?_
  refine VL.q (q_ereq Tryz.underlying38 rfl) (by decide) ?_
  refine VL.q (q_move rfl) (by decide) ?_
  refine VL.split_dec 28 rfl (fun h28 => ?_) (fun h28 => ?_)
  ·
    replace hS := it_t h28 hS
    refine VL.gy rfl rfl (q_move rfl) (by decide) ?_
    refine VL.gy rfl rfl (q_ereq Tryz.underlying38 rfl) (by decide) ?_
    refine VL.q (q_pick_t rfl rfl) (by decide) ?_
    refine VL.q (q_move rfl) (by decide) ?_
    refine VL.split_dec 32 rfl (fun h32 => ?_) (fun h32 => ?_)
    ·
      replace hS := it_t h32 hS
      refine VL.gy rfl rfl (q_move rfl) (by decide) ?_
      refine VL.gy rfl rfl (q_erne Tryz.underlying38 rfl) (by decide) ?_
      refine VL.q (q_pick_t rfl rfl) (by decide) ?_
      refine VL.q (q_move rfl) (by decide) ?_
      refine VL.split_ndec 36 rfl (fun h36 => ?_) (fun h36 => ?_)
      ·
        replace hS := it_f h36 hS
        refine VL.gy rfl rfl (q_fes gagg27 rfl rfl) (by decide) ?_
        refine VL.gy rfl rfl (q_fes gagg27 rfl rfl) (by decide) ?_
        obtain ⟨y39_8, ey39_8, hS⟩ := bd_s hS
        refine VL.gy rfl rfl (q_call (object_Same_ct q18_5_0 (⟨2, ⟨none, 0, []⟩, s9_1, 0, ⟨none, 0, []⟩, 0, []⟩ : ObjectObject) ey39_8) rfl (fun _ _ => rfl)) (by decide) ?_
        refine VL.q (q_pick_t rfl rfl) (by decide) ?_
        refine VL.q (q_move rfl) (by decide) ?_
        refine VL.split 41 rfl (fun h41 => ?_) (fun h41 => ?_)
        ·
          replace hS := it_t h41 hS
          refine VL.gy rfl rfl (q_fes gagg27 rfl rfl) (by decide) ?_
          refine VL.guard rfl rfl ?_
          obtain ⟨y43_9, ey43_9, hS⟩ := bd_s hS
          refine VL.callF (object_Check_ct (⟨2, ⟨none, 0, []⟩, s9_1, 0, ⟨none, 0, []⟩, 0, []⟩ : ObjectObject) ey43_9) rfl (by decide) ?_
          rintro q43_9_0 rfl
          try dsimp only
          refine VL.gy rfl rfl (q_ereq Tryz.underlying38 rfl) (by decide) ?_
          refine VL.q (q_pick_t rfl rfl) (by decide) ?_
          refine VL.q (q_move rfl) (by decide) ?_
          refine VL.split_dec 46 rfl (fun h46 => ?_) (fun h46 => ?_)
          ·
            replace hS := it_t h46 hS
            refine VL.gy rfl rfl (q_fes gagg27 rfl rfl) (by decide) ?_
            refine VL.gy rfl rfl (q_build (vs := [(0, i64 2)]) (cs := #[i64 2, .slice none 0 0, .slice none 0 0, i64 0, .slice none 0 0, i64 0, str []]) rfl (by kernel_rfl)) (by decide) ?_
            obtain ⟨y49_10, ey49_10, hS⟩ := bd_s hS
            refine VL.gy rfl rfl (q_call (object_Same_ct (⟨2, ⟨none, 0, []⟩, s9_1, 0, ⟨none, 0, []⟩, 0, []⟩ : ObjectObject) (⟨2, ⟨none, 0, []⟩, ⟨none, 0, []⟩, 0, ⟨none, 0, []⟩, 0, []⟩ : ObjectObject) ey49_10) rfl (fun _ _ => rfl)) (by decide) ?_
            refine VL.gy rfl rfl (q_not rfl) (by decide) ?_
            refine VL.q (q_pick_t rfl rfl) (by decide) ?_
            refine VL.q (q_assign rfl) (by decide) ?_
            refine VL.to (fun _ _ h => h) ?_
            refine VC.keep [0] rfl ?_
            cases hS
            exact VC.ret (fin1 (.inr rfl) rfl rfl () rfl trivial (fun _ _ => trivial) (fun _ _ => trivial))
          ·
            replace hS := it_f h46 hS
            refine VL.gn rfl rfl rfl (by decide) ?_
            refine VL.gn rfl rfl rfl (by decide) ?_
            refine VL.gn rfl rfl rfl (by decide) ?_
            refine VL.gn rfl rfl rfl (by decide) ?_
            refine VL.q (q_pick_f rfl rfl) (by decide) ?_
            refine VL.q (q_assign rfl) (by decide) ?_
            refine VL.to (fun _ _ h => h) ?_
            refine VC.keep [0] rfl ?_
            cases hS
            exact VC.ret (fin1 (.inr rfl) rfl rfl () rfl trivial (fun _ _ => trivial) (fun _ _ => trivial))
        ·
          replace hS := it_b h41 hS
          refine VL.gn rfl rfl rfl (by decide) ?_
          refine VL.gn rfl rfl rfl (by decide) ?_
          refine VL.gn rfl rfl rfl (by decide) ?_
          refine VL.q (q_pick_f rfl rfl) (by decide) ?_
          refine VL.q (q_move rfl) (by decide) ?_
          refine VL.gn rfl rfl rfl (by decide) ?_
          refine VL.gn rfl rfl rfl (by decide) ?_
          refine VL.gn rfl rfl rfl (by decide) ?_
          refine VL.gn rfl rfl rfl (by decide) ?_
          refine VL.q (q_pick_f rfl rfl) (by decide) ?_
          refine VL.q (q_assign rfl) (by decide) ?_
          refine VL.to (fun _ _ h => h) ?_
          refine VC.keep [0] rfl ?_
          cases hS
          exact VC.ret (fin1 (.inr rfl) rfl rfl () rfl trivial (fun _ _ => trivial) (fun _ _ => trivial))
      ·
        replace hS := it_t h36 hS
        refine VL.gn rfl rfl rfl (by decide) ?_
        refine VL.gn rfl rfl rfl (by decide) ?_
        refine VL.gn rfl rfl rfl (by decide) ?_
        refine VL.q (q_pick_f rfl rfl) (by decide) ?_
        refine VL.q (q_move rfl) (by decide) ?_
        refine VL.gn rfl rfl rfl (by decide) ?_
        refine VL.gn rfl rfl rfl (by decide) ?_
        refine VL.gn rfl rfl rfl (by decide) ?_
        refine VL.q (q_pick_f rfl rfl) (by decide) ?_
        refine VL.q (q_move rfl) (by decide) ?_
        refine VL.gn rfl rfl rfl (by decide) ?_
        refine VL.gn rfl rfl rfl (by decide) ?_
        refine VL.gn rfl rfl rfl (by decide) ?_
        refine VL.gn rfl rfl rfl (by decide) ?_
        refine VL.q (q_pick_f rfl rfl) (by decide) ?_
        refine VL.q (q_assign rfl) (by decide) ?_
        refine VL.to (fun _ _ h => h) ?_
        refine VC.keep [0] rfl ?_
        cases hS
        exact VC.ret (fin1 (.inr rfl) rfl rfl () rfl trivial (fun _ _ => trivial) (fun _ _ => trivial))
    ·
      replace hS := it_f h32 hS
      refine VL.gn rfl rfl rfl (by decide) ?_
      refine VL.gn rfl rfl rfl (by decide) ?_
      refine VL.q (q_pick_f rfl rfl) (by decide) ?_
      refine VL.q (q_move rfl) (by decide) ?_
      refine VL.gn rfl rfl rfl (by decide) ?_
      refine VL.gn rfl rfl rfl (by decide) ?_
      refine VL.gn rfl rfl rfl (by decide) ?_
      refine VL.q (q_pick_f rfl rfl) (by decide) ?_
      refine VL.q (q_move rfl) (by decide) ?_
      refine VL.gn rfl rfl rfl (by decide) ?_
      refine VL.gn rfl rfl rfl (by decide) ?_
      refine VL.gn rfl rfl rfl (by decide) ?_
      refine VL.q (q_pick_f rfl rfl) (by decide) ?_
      refine VL.q (q_move rfl) (by decide) ?_
      refine VL.gn rfl rfl rfl (by decide) ?_
      refine VL.gn rfl rfl rfl (by decide) ?_
      refine VL.gn rfl rfl rfl (by decide) ?_
      refine VL.gn rfl rfl rfl (by decide) ?_
      refine VL.q (q_pick_f rfl rfl) (by decide) ?_
      refine VL.q (q_assign rfl) (by decide) ?_
      refine VL.to (fun _ _ h => h) ?_
      refine VC.keep [0] rfl ?_
      cases hS
      exact VC.ret (fin1 (.inr rfl) rfl rfl () rfl trivial (fun _ _ => trivial) (fun _ _ => trivial))
  ·
    replace hS := it_f h28 hS
    refine VL.gn rfl rfl rfl (by decide) ?_
    refine VL.gn rfl rfl rfl (by decide) ?_
    refine VL.q (q_pick_f rfl rfl) (by decide) ?_
    refine VL.q (q_move rfl) (by decide) ?_
    refine VL.gn rfl rfl rfl (by decide) ?_
    refine VL.gn rfl rfl rfl (by decide) ?_
    refine VL.q (q_pick_f rfl rfl) (by decide) ?_
    refine VL.q (q_move rfl) (by decide) ?_
    refine VL.gn rfl rfl rfl (by decide) ?_
    refine VL.gn rfl rfl rfl (by decide) ?_
    refine VL.gn rfl rfl rfl (by decide) ?_
    refine VL.q (q_pick_f rfl rfl) (by decide) ?_
    refine VL.q (q_move rfl) (by decide) ?_
    refine VL.gn rfl rfl rfl (by decide) ?_
    refine VL.gn rfl rfl rfl (by decide) ?_
    refine VL.gn rfl rfl rfl (by decide) ?_
    refine VL.q (q_pick_f rfl rfl) (by decide) ?_
    refine VL.q (q_move rfl) (by decide) ?_
    refine VL.gn rfl rfl rfl (by decide) ?_
    refine VL.gn rfl rfl rfl (by decide) ?_
    refine VL.gn rfl rfl rfl (by decide) ?_
    refine VL.gn rfl rfl rfl (by decide) ?_
    refine VL.q (q_pick_f rfl rfl) (by decide) ?_
    refine VL.q (q_assign rfl) (by decide) ?_
    refine VL.to (fun _ _ h => h) ?_
    refine VC.keep [0] rfl ?_
    cases hS
    exact VC.ret (fin1 (.inr rfl) rfl rfl () rfl trivial (fun _ _ => trivial) (fun _ _ => trivial))

set_option maxHeartbeats 4000000 in
set_option maxRecDepth 100000 in
theorem rectoref3_At_ct (word_0 : Str) (at_1 : Int) (e_2 : Int) {r : Rectoref3WrongP} (hS : Sh.rectoref3_At word_0 at_1 e_2 = some r) :
    Ct Tryz.prog 9 [str word_0, i64 at_1, i64 e_2] Mo.tt (Ow.emp) (X := Rectoref3Wrong) (fun x => .agg (Dat.enc x).toArray) (fun x => r = x.pl) (fun x => x.m) (fun x => Ow.emp) := by
  refine Ct.of Tryz.func9 rfl (by kernel_rfl) Tryz.ntmps9 (by simp) fun c => ?_
  unfold Sh.rectoref3_At at hS
  refine VC.seq ?_
  refine VC.region ?_
  refine VL.alloc (cs := [.slice none 0 0, i64 0]) (by kernel_rfl) (by decide) fun b6_1 => ?_
  refine VL.to (fun _ _ h => h) ?_
  refine VC.seq ?_
  refine VC.region ?_
  refine VL.q (q_move rfl) (by decide) ?_
  refine VL.q (q_move rfl) (by decide) ?_
  refine VL.q (q_build (vs := [(0, str word_0), (1, i64 at_1)]) (cs := #[str word_0, i64 at_1]) rfl (by kernel_rfl)) (by decide) ?_
  refine VL.lit (α := Rectoref3Part) (xs := [.tmp 9]) (vs := [.agg #[str word_0, i64 at_1]]) [⟨word_0, at_1⟩] Tryz.underlying32 glit95 (by decide) rfl rfl rfl rfl (by decide) (fun _ _ _ _ => trivial) (by decide) (fun s10_2 hs10_2 => ?_) (by decide)
  replace hS := lt_to hs10_2 hS
  refine VL.q (q_move rfl) (by decide) ?_
  refine VL.q (q_build (vs := [(0, s10_2.val), (1, i64 e_2)]) (cs := #[s10_2.val, i64 e_2]) rfl (by kernel_rfl)) (by decide) ?_
  refine VL.store (vc := [s10_2.val, i64 e_2]) (cs' := [s10_2.val, i64 e_2]) rfl rfl rfl gsz34 rfl rfl (Nat.le_of_ble_eq_true rfl) rfl ?_
  refine VL.to (fun _ _ h => h) ?_
  cases hS
  exact VC.ret (finG (vs := [.agg #[s10_2.val, i64 e_2]]) (.inr rfl) rfl (RVs.cell gagg34 rfl rfl Rd.blk (RVs.nil)) ⟨s10_2, e_2⟩ rfl rfl (by (try dsimp only); exact InM.out) (fun _ _ => trivial))

set_option maxHeartbeats 4000000 in
set_option maxRecDepth 100000 in
theorem api_Errno_Error_ct (e_0 : Int) {r : Str} (hS : Sh.api_Errno_Error e_0 = some r) :
    Ct Tryz.prog 312 [i64 e_0] Mo.tt (Ow.emp) (X := Unit) (fun _ => str r) (fun _ => True) (fun _ => Mo.tt) (fun _ => Ow.emp) := by
  refine Ct.of Tryz.func312 rfl (by kernel_rfl) Tryz.ntmps312 (by simp) fun c => ?_
  unfold Sh.api_Errno_Error at hS
  refine VC.seq ?_
  refine VC.region ?_
  refine VL.q (q_assign rfl) (by decide) ?_
  refine VL.to (fun _ _ h => h) ?_
  refine VC.seq ?_
  refine VC.seq ?_
  refine VC.region ?_
  refine VL.q (q_move rfl) (by decide) ?_
  refine VL.to (fun _ _ h => h) ?_
  refine VC.block ?_
  refine VC.seq ?_
  refine VC.region ?_
  refine VL.q (q_eql rfl rfl) (by decide) ?_
  refine VL.q (q_assign rfl) (by decide) ?_
  refine VL.to (fun _ _ h => h) ?_
  refine VC.cond_dec rfl (fun h4 => ?_) (fun h4 => ?_)
  ·
    replace hS := it_t h4 hS
    refine VC.seq ?_
    refine VC.region ?_
    refine VL.q (q_assign rfl) (by decide) ?_
    refine VL.to (fun _ _ h => h) ?_
    cases hS
    exact VC.ret (fin1 (.inr rfl) rfl rfl () rfl trivial (fun _ _ => trivial) (fun _ _ => trivial))
  ·
    replace hS := it_f h4 hS
    refine VC.seq ?_
    refine VC.region ?_
    refine VL.q (q_eql rfl rfl) (by decide) ?_
    refine VL.q (q_assign rfl) (by decide) ?_
    refine VL.to (fun _ _ h => h) ?_
    refine VC.cond_dec rfl (fun h6 => ?_) (fun h6 => ?_)
    ·
      replace hS := it_t h6 hS
      refine VC.seq ?_
      refine VC.region ?_
      refine VL.q (q_assign rfl) (by decide) ?_
      refine VL.to (fun _ _ h => h) ?_
      cases hS
      exact VC.ret (fin1 (.inr rfl) rfl rfl () rfl trivial (fun _ _ => trivial) (fun _ _ => trivial))
    ·
      replace hS := it_f h6 hS
      refine VC.seq ?_
      refine VC.region ?_
      refine VL.q (q_eql rfl rfl) (by decide) ?_
      refine VL.q (q_assign rfl) (by decide) ?_
      refine VL.to (fun _ _ h => h) ?_
      refine VC.cond_dec rfl (fun h8 => ?_) (fun h8 => ?_)
      ·
        replace hS := it_t h8 hS
        refine VC.seq ?_
        refine VC.region ?_
        refine VL.q (q_assign rfl) (by decide) ?_
        refine VL.to (fun _ _ h => h) ?_
        cases hS
        exact VC.ret (fin1 (.inr rfl) rfl rfl () rfl trivial (fun _ _ => trivial) (fun _ _ => trivial))
      ·
        replace hS := it_f h8 hS
        refine VC.seq ?_
        refine VC.region ?_
        refine VL.q (q_eql rfl rfl) (by decide) ?_
        refine VL.q (q_assign rfl) (by decide) ?_
        refine VL.to (fun _ _ h => h) ?_
        refine VC.keep [3, 10] rfl ?_
        refine VC.cond_dec rfl (fun h10 => ?_) (fun h10 => ?_)
        ·
          replace hS := it_t h10 hS
          refine VC.seq ?_
          refine VC.region ?_
          refine VL.q (q_assign rfl) (by decide) ?_
          refine VL.to (fun _ _ h => h) ?_
          cases hS
          exact VC.ret (fin1 (.inr rfl) rfl rfl () rfl trivial (fun _ _ => trivial) (fun _ _ => trivial))
        ·
          replace hS := it_f h10 hS
          refine VC.seq ?_
          refine VC.region ?_
          refine VL.q (q_eql rfl rfl) (by decide) ?_
          refine VL.q (q_assign rfl) (by decide) ?_
          refine VL.to (fun _ _ h => h) ?_
          refine VC.cond_dec rfl (fun h12 => ?_) (fun h12 => ?_)
          ·
            replace hS := it_t h12 hS
            refine VC.seq ?_
            refine VC.region ?_
            refine VL.q (q_assign rfl) (by decide) ?_
            refine VL.to (fun _ _ h => h) ?_
            cases hS
            exact VC.ret (fin1 (.inr rfl) rfl rfl () rfl trivial (fun _ _ => trivial) (fun _ _ => trivial))
          ·
            replace hS := it_f h12 hS
            refine VC.seq ?_
            refine VC.region ?_
            refine VL.q (q_eql rfl rfl) (by decide) ?_
            refine VL.q (q_assign rfl) (by decide) ?_
            refine VL.to (fun _ _ h => h) ?_
            refine VC.cond_dec rfl (fun h14 => ?_) (fun h14 => ?_)
            ·
              replace hS := it_t h14 hS
              refine VC.seq ?_
              refine VC.region ?_
              refine VL.q (q_assign rfl) (by decide) ?_
              refine VL.to (fun _ _ h => h) ?_
              cases hS
              exact VC.ret (fin1 (.inr rfl) rfl rfl () rfl trivial (fun _ _ => trivial) (fun _ _ => trivial))
            ·
              replace hS := it_f h14 hS
              refine VC.seq ?_
              refine VC.region ?_
              refine VL.q (q_eql rfl rfl) (by decide) ?_
              refine VL.q (q_assign rfl) (by decide) ?_
              refine VL.to (fun _ _ h => h) ?_
              refine VC.cond_dec rfl (fun h16 => ?_) (fun h16 => ?_)
              ·
                replace hS := it_t h16 hS
                refine VC.seq ?_
                refine VC.region ?_
                refine VL.q (q_assign rfl) (by decide) ?_
                refine VL.to (fun _ _ h => h) ?_
                cases hS
                exact VC.ret (fin1 (.inr rfl) rfl rfl () rfl trivial (fun _ _ => trivial) (fun _ _ => trivial))
              ·
                replace hS := it_f h16 hS
                refine VC.seq ?_
                refine VC.region ?_
                refine VL.q (q_eql rfl rfl) (by decide) ?_
                refine VL.q (q_assign rfl) (by decide) ?_
                refine VL.to (fun _ _ h => h) ?_
                refine VC.cond_dec rfl (fun h18 => ?_) (fun h18 => ?_)
                ·
                  replace hS := it_t h18 hS
                  refine VC.seq ?_
                  refine VC.region ?_
                  refine VL.q (q_assign rfl) (by decide) ?_
                  refine VL.to (fun _ _ h => h) ?_
                  refine VC.keep [2] rfl ?_
                  cases hS
                  exact VC.ret (fin1 (.inr rfl) rfl rfl () rfl trivial (fun _ _ => trivial) (fun _ _ => trivial))
                ·
                  replace hS := it_f h18 hS
                  refine VC.seq ?_
                  refine VC.region ?_
                  refine VL.q (q_eql rfl rfl) (by decide) ?_
                  refine VL.q (q_assign rfl) (by decide) ?_
                  refine VL.to (fun _ _ h => h) ?_
                  refine VC.keep [3, 20] rfl ?_
                  refine VC.cond_dec rfl (fun h20 => ?_) (fun h20 => ?_)
                  ·
                    replace hS := it_t h20 hS
                    refine VC.seq ?_
                    refine VC.region ?_
                    refine VL.q (q_assign rfl) (by decide) ?_
                    refine VL.to (fun _ _ h => h) ?_
                    cases hS
                    exact VC.ret (fin1 (.inr rfl) rfl rfl () rfl trivial (fun _ _ => trivial) (fun _ _ => trivial))
                  ·
                    replace hS := it_f h20 hS
                    refine VC.seq ?_
                    refine VC.region ?_
                    refine VL.q (q_eql rfl rfl) (by decide) ?_
                    refine VL.q (q_assign rfl) (by decide) ?_
                    refine VL.to (fun _ _ h => h) ?_
                    refine VC.cond_dec rfl (fun h22 => ?_) (fun h22 => ?_)
                    ·
                      replace hS := it_t h22 hS
                      refine VC.seq ?_
                      refine VC.region ?_
                      refine VL.q (q_assign rfl) (by decide) ?_
                      refine VL.to (fun _ _ h => h) ?_
                      cases hS
                      exact VC.ret (fin1 (.inr rfl) rfl rfl () rfl trivial (fun _ _ => trivial) (fun _ _ => trivial))
                    ·
                      replace hS := it_f h22 hS
                      refine VC.seq ?_
                      refine VC.region ?_
                      refine VL.q (q_eql rfl rfl) (by decide) ?_
                      refine VL.q (q_assign rfl) (by decide) ?_
                      refine VL.to (fun _ _ h => h) ?_
                      refine VC.cond_dec rfl (fun h24 => ?_) (fun h24 => ?_)
                      ·
                        replace hS := it_t h24 hS
                        refine VC.seq ?_
                        refine VC.region ?_
                        refine VL.q (q_assign rfl) (by decide) ?_
                        refine VL.to (fun _ _ h => h) ?_
                        cases hS
                        exact VC.ret (fin1 (.inr rfl) rfl rfl () rfl trivial (fun _ _ => trivial) (fun _ _ => trivial))
                      ·
                        replace hS := it_f h24 hS
                        refine VC.seq ?_
                        refine VC.region ?_
                        refine VL.q (q_eql rfl rfl) (by decide) ?_
                        refine VL.q (q_assign rfl) (by decide) ?_
                        refine VL.to (fun _ _ h => h) ?_
                        refine VC.cond_dec rfl (fun h26 => ?_) (fun h26 => ?_)
                        ·
                          replace hS := it_t h26 hS
                          refine VC.seq ?_
                          refine VC.region ?_
                          refine VL.q (q_assign rfl) (by decide) ?_
                          refine VL.to (fun _ _ h => h) ?_
                          cases hS
                          exact VC.ret (fin1 (.inr rfl) rfl rfl () rfl trivial (fun _ _ => trivial) (fun _ _ => trivial))
                        ·
                          replace hS := it_f h26 hS
                          refine VC.seq ?_
                          refine VC.region ?_
                          refine VL.q (q_eql rfl rfl) (by decide) ?_
                          refine VL.q (q_assign rfl) (by decide) ?_
                          refine VL.to (fun _ _ h => h) ?_
                          refine VC.cond_dec rfl (fun h28 => ?_) (fun h28 => ?_)
                          ·
                            replace hS := it_t h28 hS
                            refine VC.seq ?_
                            refine VC.region ?_
                            refine VL.q (q_assign rfl) (by decide) ?_
                            refine VL.to (fun _ _ h => h) ?_
                            refine VC.keep [2] rfl ?_
                            cases hS
                            exact VC.ret (fin1 (.inr rfl) rfl rfl () rfl trivial (fun _ _ => trivial) (fun _ _ => trivial))
                          ·
                            replace hS := it_f h28 hS
                            refine VC.seq ?_
                            refine VC.region ?_
                            refine VL.q (q_eql rfl rfl) (by decide) ?_
                            refine VL.q (q_assign rfl) (by decide) ?_
                            refine VL.to (fun _ _ h => h) ?_
                            refine VC.keep [3, 30] rfl ?_
                            refine VC.cond_dec rfl (fun h30 => ?_) (fun h30 => ?_)
                            ·
                              replace hS := it_t h30 hS
                              refine VC.seq ?_
                              refine VC.region ?_
                              refine VL.q (q_assign rfl) (by decide) ?_
                              refine VL.to (fun _ _ h => h) ?_
                              cases hS
                              exact VC.ret (fin1 (.inr rfl) rfl rfl () rfl trivial (fun _ _ => trivial) (fun _ _ => trivial))
                            ·
                              replace hS := it_f h30 hS
                              refine VC.seq ?_
                              refine VC.region ?_
                              refine VL.q (q_eql rfl rfl) (by decide) ?_
                              refine VL.q (q_assign rfl) (by decide) ?_
                              refine VL.to (fun _ _ h => h) ?_
                              refine VC.cond_dec rfl (fun h32 => ?_) (fun h32 => ?_)
                              ·
                                replace hS := it_t h32 hS
                                refine VC.seq ?_
                                refine VC.region ?_
                                refine VL.q (q_assign rfl) (by decide) ?_
                                refine VL.to (fun _ _ h => h) ?_
                                cases hS
                                exact VC.ret (fin1 (.inr rfl) rfl rfl () rfl trivial (fun _ _ => trivial) (fun _ _ => trivial))
                              ·
                                replace hS := it_f h32 hS
                                refine VC.skip_to (fun _ _ h => h) ?_
                                refine VC.seq ?_
                                refine VC.region ?_
                                refine VL.q (q_assign rfl) (by decide) ?_
                                refine VL.to (fun _ _ h => h) ?_
                                cases hS
                                exact VC.ret (fin1 (.inr rfl) rfl rfl () rfl trivial (fun _ _ => trivial) (fun _ _ => trivial))

set_option maxHeartbeats 4000000 in
set_option maxRecDepth 100000 in
theorem internal_strconv_small_ct (i_0 : Int) {r : Str} (hS : Sh.internal_strconv_small i_0 = some r) :
    Ct Tryz.prog 244 [i64 i_0] Mo.tt (Ow.emp) (X := Unit) (fun _ => str r) (fun _ => True) (fun _ => Mo.tt) (fun _ => Ow.emp) := by
  refine Ct.of Tryz.func244 rfl (by kernel_rfl) Tryz.ntmps244 (by simp) fun c => ?_
  unfold Sh.internal_strconv_small at hS
  refine VC.seq ?_
  refine VC.region ?_
  refine VL.q (q_assign rfl) (by decide) ?_
  refine VL.to (fun _ _ h => h) ?_
  refine VC.seq ?_
  refine VC.seq ?_
  refine VC.region ?_
  refine VL.q (q_move rfl) (by decide) ?_
  refine VL.q (q_lss rfl rfl) (by decide) ?_
  refine VL.to (fun _ _ h => h) ?_
  refine VC.cond_dec rfl (fun h4 => ?_) (fun h4 => ?_)
  ·
    replace hS := it_t h4 hS
    refine VC.seq ?_
    refine VC.region ?_
    refine VL.q (q_move rfl) (by decide) ?_
    refine VL.q (q_move rfl) (by decide) ?_
    obtain ⟨b7, hS⟩ := gd_s hS
    refine VL.q (q_add rfl rfl b7) (by decide) ?_
    obtain ⟨b8, hS⟩ := gd_s hS
    obtain ⟨y8_1, ey8_1, hS⟩ := lt_s hS
    refine VL.q (q_smidE Tryz.underlying9 rfl rfl rfl b8.1 b8.2.1 b8.2.2 ey8_1) (by decide) ?_
    refine VL.q (q_assign rfl) (by decide) ?_
    refine VL.to (fun _ _ h => h) ?_
    cases hS
    exact VC.ret (fin1 (.inr rfl) rfl rfl () rfl trivial (fun _ _ => trivial) (fun _ _ => trivial))
  ·
    replace hS := it_f h4 hS
    refine VC.skip_to (fun _ _ h => h) ?_
    refine VC.seq ?_
    refine VC.region ?_
    refine VL.q (q_move rfl) (by decide) ?_
    obtain ⟨b10, hS⟩ := gd_s hS
    refine VL.q (q_mul rfl rfl b10) (by decide) ?_
    refine VL.q (q_move rfl) (by decide) ?_
    obtain ⟨b12, hS⟩ := gd_s hS
    refine VL.q (q_mul rfl rfl b12) (by decide) ?_
    obtain ⟨b13, hS⟩ := gd_s hS
    refine VL.q (q_add rfl rfl b13) (by decide) ?_
    obtain ⟨b14, hS⟩ := gd_s hS
    obtain ⟨y14_2, ey14_2, hS⟩ := lt_s hS
    refine VL.q (q_smidE Tryz.underlying9 rfl rfl rfl b14.1 b14.2.1 b14.2.2 ey14_2) (by decide) ?_
    refine VL.q (q_assign rfl) (by decide) ?_
    refine VL.to (fun _ _ h => h) ?_
    cases hS
    exact VC.ret (fin1 (.inr rfl) rfl rfl () rfl trivial (fun _ _ => trivial) (fun _ _ => trivial))

set_option maxHeartbeats 4000000 in
set_option maxRecDepth 100000 in
theorem internal_strconv_FormatInt_ct (i_0 : Int) (base_1 : Int) {r : Str} (hS : Sh.internal_strconv_FormatInt i_0 base_1 = some r) :
    Ct Tryz.prog 209 [i64 i_0, i64 base_1] Mo.tt (Ow.emp) (X := Unit) (fun _ => str r) (fun _ => True) (fun _ => Mo.tt) (fun _ => Ow.emp) := by
  refine Ct.of Tryz.func209 rfl (by kernel_rfl) Tryz.ntmps209 (by simp) fun c => ?_
  unfold Sh.internal_strconv_FormatInt at hS
  refine VC.seq ?_
  refine VC.region ?_
  refine VL.q (q_assign rfl) (by decide) ?_
  refine VL.to (fun _ _ h => h) ?_
  refine VC.seq ?_
  refine VC.seq ?_
  refine VC.region ?_
  refine VL.q (q_move rfl) (by decide) ?_
  refine VL.q (q_eql rfl rfl) (by decide) ?_
  refine VL.to (fun _ _ h => h) ?_
  refine VC.cond_dec rfl (fun h11 => ?_) (fun h11 => ?_)
  ·
    replace hS := it_t h11 hS
    refine VC.seq ?_
    refine VC.cutJ (S := Bool) (fun (x17_1 : Bool) => x17_1) (fun (x17_1 : Bool) => [(0, i64 i_0), (17, .bool x17_1)]) (fun (x17_1 : Bool) => Mo.tt) (fun (x17_1 : Bool) => Ow.emp) hS ?_ ?_
    · -- up to where ways meet
      clear hS
      intro k2 hS
      refine VC.region ?_
      refine VL.q (q_move rfl) (by decide) ?_
      refine VL.q (q_leq rfl rfl) (by decide) ?_
      refine VL.q (q_move rfl) (by decide) ?_
      refine VL.split_dec 14 rfl (fun h14 => ?_) (fun h14 => ?_)
      ·
        replace hS := it_t h14 hS
        refine VL.gy rfl rfl (q_move rfl) (by decide) ?_
        refine VL.gy rfl rfl (q_lss rfl rfl) (by decide) ?_
        refine VL.q (q_pick_t rfl rfl) (by decide) ?_
        refine VL.mt (decide (i_0 < 100)) [0, 17] (fun _ _ h => h) hS rfl
      ·
        replace hS := it_f h14 hS
        refine VL.gn rfl rfl rfl (by decide) ?_
        refine VL.gn rfl rfl rfl (by decide) ?_
        refine VL.q (q_pick_f rfl rfl) (by decide) ?_
        refine VL.mt false [0, 17] (fun _ _ h => h) hS rfl
    · -- from there
      clear hS
      rintro x17_1 hS
      show VC _ _ _ _ _ [(0, i64 i_0), (17, .bool x17_1)] (Mo.and Mo.tt _) (Ow.emp)
      refine VC.cond rfl (fun h17 => ?_) (fun h17 => ?_)
      ·
        replace hS := it_t h17 hS
        refine VC.seq ?_
        refine VC.region ?_
        refine VL.q (q_move rfl) (by decide) ?_
        obtain ⟨y19_3, ey19_3, hS⟩ := bd_s hS
        refine VL.q (q_call (internal_strconv_small_ct i_0 ey19_3) rfl (fun _ _ => rfl)) (by decide) ?_
        refine VL.q (q_assign rfl) (by decide) ?_
        refine VL.to (fun _ _ h => h) ?_
        cases hS
        exact VC.ret (fin1 (.inr rfl) rfl rfl () rfl trivial (fun _ _ => trivial) (fun _ _ => trivial))
      ·
        replace hS := it_b h17 hS
        refine VC.skip_to (fun _ _ h => h) ?_
        refine VC.seq ?_
        refine VC.region ?_
        cases hS
  ·
    replace hS := it_f h11 hS
    refine VC.skip_to (fun _ _ h => h) ?_
    refine VC.seq ?_
    refine VC.region ?_
    refine VL.q (q_move rfl) (by decide) ?_
    refine VL.q (q_convW Tryz.underlying2 Tryz.underlying239 rfl) (by decide) ?_
    refine VL.q (q_move rfl) (by decide) ?_
    refine VL.q (q_move rfl) (by decide) ?_
    refine VL.q (q_lss rfl rfl) (by decide) ?_
    cases hS

set_option maxHeartbeats 4000000 in
set_option maxRecDepth 100000 in
theorem internal_strconv_Itoa_ct (i_0 : Int) {r : Str} (hS : Sh.internal_strconv_Itoa i_0 = some r) :
    Ct Tryz.prog 163 [i64 i_0] Mo.tt (Ow.emp) (X := Unit) (fun _ => str r) (fun _ => True) (fun _ => Mo.tt) (fun _ => Ow.emp) := by
  refine Ct.of Tryz.func163 rfl (by kernel_rfl) Tryz.ntmps163 (by simp) fun c => ?_
  unfold Sh.internal_strconv_Itoa at hS
  refine VC.seq ?_
  refine VC.region ?_
  refine VL.q (q_assign rfl) (by decide) ?_
  refine VL.to (fun _ _ h => h) ?_
  refine VC.seq ?_
  refine VC.region ?_
  refine VL.q (q_move rfl) (by decide) ?_
  obtain ⟨y4_1, ey4_1, hS⟩ := bd_s hS
  refine VL.q (q_call (internal_strconv_FormatInt_ct i_0 10 ey4_1) rfl (fun _ _ => rfl)) (by decide) ?_
  refine VL.q (q_assign rfl) (by decide) ?_
  refine VL.to (fun _ _ h => h) ?_
  cases hS
  exact VC.ret (fin1 (.inr rfl) rfl rfl () rfl trivial (fun _ _ => trivial) (fun _ _ => trivial))

set_option maxHeartbeats 4000000 in
set_option maxRecDepth 100000 in
theorem strconv_Itoa_ct (i_0 : Int) {r : Str} (hS : Sh.strconv_Itoa i_0 = some r) :
    Ct Tryz.prog 91 [i64 i_0] Mo.tt (Ow.emp) (X := Unit) (fun _ => str r) (fun _ => True) (fun _ => Mo.tt) (fun _ => Ow.emp) := by
  refine Ct.of Tryz.func91 rfl (by kernel_rfl) Tryz.ntmps91 (by simp) fun c => ?_
  unfold Sh.strconv_Itoa at hS
  refine VC.seq ?_
  refine VC.region ?_
  refine VL.q (q_assign rfl) (by decide) ?_
  refine VL.to (fun _ _ h => h) ?_
  refine VC.seq ?_
  refine VC.region ?_
  refine VL.q (q_move rfl) (by decide) ?_
  obtain ⟨y4_1, ey4_1, hS⟩ := bd_s hS
  refine VL.q (q_call (internal_strconv_Itoa_ct i_0 ey4_1) rfl (fun _ _ => rfl)) (by decide) ?_
  refine VL.q (q_assign rfl) (by decide) ?_
  refine VL.to (fun _ _ h => h) ?_
  cases hS
  exact VC.ret (fin1 (.inr rfl) rfl rfl () rfl trivial (fun _ _ => trivial) (fun _ _ => trivial))

set_option maxHeartbeats 4000000 in
set_option maxRecDepth 100000 in
theorem api_Fault_Error_ct (f_0_b : Nat) (f_0 : ApiFault) {E : Option Str} (ih : ∀ {y : Str}, E = some y → Says Tryz.prog f_0.err.val "Error" (f_0.err.ok.and Gl) (str y)) {r : Str} (hS : Sh.api_Fault_Error f_0.pl E = some r) :
    Ct Tryz.prog 313 [ptr f_0_b 0] (f_0.err.ok.and ((Cells f_0_b 0 [str f_0.part, i64 f_0.at_, f_0.err.val]).and Gl)) (Ow.emp) (X := Unit) (fun _ => str r) (fun _ => True) (fun _ => Mo.tt) (fun _ => Ow.emp) := by
  refine Ct.of Tryz.func313 rfl (by kernel_rfl) Tryz.ntmps313 (by simp) fun c => ?_
  unfold Sh.api_Fault_Error at hS
  refine VC.seq ?_
  refine VC.region ?_
  refine VL.q (q_assign rfl) (by decide) ?_
  refine VL.to (fun _ _ h => h) ?_
  refine VC.seq ?_
  refine VC.seq ?_
  refine VC.region ?_
  refine VL.q (q_move rfl) (by decide) ?_
  refine VL.q (q_nilCheck rfl) (by decide) ?_
  refine VL.q (q_field gfa104_2 rfl) (by decide) ?_
  refine VL.q (q_fm gone38 rfl rfl) (by decide) ?_
  refine VL.q (q_ereq Tryz.underlying38 rfl) (by decide) ?_
  refine VL.to (fun _ _ h => h) ?_
  refine VC.cond_dec rfl (fun h7 => ?_) (fun h7 => ?_)
  ·
    replace hS := it_t h7 hS
    refine VC.seq ?_
    refine VC.draw ((List.range 12).map fun k => (k, true)) mixed (by kernel_rfl) (by kernel_rfl) (by kernel_rfl) ?_
    refine VD.q rfl (q_move rfl) (by decide) ?_
    refine VD.q rfl (q_nilCheck rfl) (by decide) ?_
    refine VD.q rfl (q_field gfa104_0 rfl) (by decide) ?_
    refine VD.q rfl (q_fm gone9 rfl rfl) (by decide) ?_
    obtain ⟨b12, hS⟩ := gd_s hS
    obtain ⟨y12_1, ey12_1, hS⟩ := lt_s hS
    refine VD.q rfl (q_catE rfl rfl b12 ey12_1) (by decide) ?_
    refine VD.q rfl (q_move rfl) (by decide) ?_
    refine VD.q rfl (q_nilCheck rfl) (by decide) ?_
    refine VD.q rfl (q_field gfa104_1 rfl) (by decide) ?_
    refine VD.q rfl (q_fm gone3 rfl rfl) (by decide) ?_
    obtain ⟨y17_2, ey17_2, hS⟩ := bd_s hS
    refine VD.q rfl (q_call (strconv_Itoa_ct f_0.at_ ey17_2) rfl (fun _ _ => rfl)) (by decide) ?_
    obtain ⟨b18, hS⟩ := gd_s hS
    obtain ⟨y18_3, ey18_3, hS⟩ := lt_s hS
    refine VD.q rfl (q_catE rfl rfl b18 ey18_3) (by decide) ?_
    refine VD.q rfl (q_assign rfl) (by decide) ?_
    refine VD.to (fun _ _ h => h) ?_
    refine VC.keep [2] rfl ?_
    cases hS
    exact VC.ret (fin1 (.inr rfl) rfl rfl () rfl trivial (fun _ _ => trivial) (fun _ _ => trivial))
  ·
    replace hS := it_f h7 hS
    refine VC.skip_to (fun _ _ h => h) ?_
    refine VC.seq ?_
    refine VC.draw ((List.range 19).map fun k => (k, true)) mixed (by kernel_rfl) (by kernel_rfl) (by kernel_rfl) ?_
    refine VD.q rfl (q_move rfl) (by decide) ?_
    refine VD.q rfl (q_nilCheck rfl) (by decide) ?_
    refine VD.q rfl (q_field gfa104_0 rfl) (by decide) ?_
    refine VD.q rfl (q_fm gone9 rfl rfl) (by decide) ?_
    obtain ⟨b23, hS⟩ := gd_s hS
    obtain ⟨y23_4, ey23_4, hS⟩ := lt_s hS
    refine VD.q rfl (q_catE rfl rfl b23 ey23_4) (by decide) ?_
    refine VD.q rfl (q_move rfl) (by decide) ?_
    refine VD.q rfl (q_nilCheck rfl) (by decide) ?_
    refine VD.q rfl (q_field gfa104_1 rfl) (by decide) ?_
    refine VD.q rfl (q_fm gone3 rfl rfl) (by decide) ?_
    obtain ⟨y28_5, ey28_5, hS⟩ := bd_s hS
    refine VD.q rfl (q_call (strconv_Itoa_ct f_0.at_ ey28_5) rfl (fun _ _ => rfl)) (by decide) ?_
    obtain ⟨b29, hS⟩ := gd_s hS
    obtain ⟨y29_6, ey29_6, hS⟩ := lt_s hS
    refine VD.q rfl (q_catE rfl rfl b29 ey29_6) (by decide) ?_
    obtain ⟨b30, hS⟩ := gd_s hS
    obtain ⟨y30_7, ey30_7, hS⟩ := lt_s hS
    refine VD.q rfl (q_catE rfl rfl b30 ey30_7) (by decide) ?_
    refine VD.q rfl (q_move rfl) (by decide) ?_
    refine VD.q rfl (q_nilCheck rfl) (by decide) ?_
    refine VD.q rfl (q_field gfa104_2 rfl) (by decide) ?_
    refine VD.q rfl (q_fm gone38 rfl rfl) (by decide) ?_
    obtain ⟨y35_8, ey35_8, hS⟩ := bd_s hS
    refine VD.q rfl (q_say rfl (ih ey35_8)) (by decide) ?_
    obtain ⟨b36, hS⟩ := gd_s hS
    obtain ⟨y36_9, ey36_9, hS⟩ := lt_s hS
    refine VD.q rfl (q_catE rfl rfl b36 ey36_9) (by decide) ?_
    refine VD.q rfl (q_assign rfl) (by decide) ?_
    refine VD.to (fun _ _ h => h) ?_
    refine VC.keep [2] rfl ?_
    cases hS
    exact VC.ret (fin1 (.inr rfl) rfl rfl () rfl trivial (fun _ _ => trivial) (fun _ _ => trivial))

theorem fault_me (v : Value) : Meth Tryz.prog (.iface 100 v) "Error" 313 v := Meth.of fun w => by kernel_rfl
theorem errno_me (v : Value) : Meth Tryz.prog (.iface 99 v) "Error" 312 v := Meth.of fun w => by kernel_rfl
theorem text_says : ∀ (z : Er) {r : Str} (h : Sh.erText z.pl = some r), Says Tryz.prog z.val "Error" (z.ok.and Gl) (str r)
  | .nil, r, h => by cases h
  | .no n, r, h => ⟨312, i64 n, errno_me _, (api_Errno_Error_ct n h).weak (fun _ _ => trivial) (fun _ q => q)⟩
  | .fault b p a e, r, h => ⟨313, ptr b 0, fault_me _, (api_Fault_Error_ct b ⟨p, a, e⟩ (E := Sh.erText e.pl) (fun q => text_says e q) h).weak (fun _ m => ⟨m.1.2, m.1.1, m.2⟩) (fun _ q => q)⟩

set_option maxHeartbeats 4000000 in
set_option maxRecDepth 100000 in
theorem rectoref3_Decimal_r_ct (n_0 : Int) {r : Str} (hS : Sh.rectoref3_Decimal_r n_0 = some r) :
    Ct Tryz.prog 94 [i64 n_0] Mo.tt (Ow.emp) (X := Unit) (fun _ => str r) (fun _ => True) (fun _ => Mo.tt) (fun _ => Ow.emp) := by
  refine Ct.of Tryz.func94 rfl (by kernel_rfl) Tryz.ntmps94 (by simp) fun c => ?_
  unfold Sh.rectoref3_Decimal_r at hS
  refine VC.seq ?_
  refine VC.region ?_
  refine VL.q (q_assign rfl) (by decide) ?_
  refine VL.to (fun _ _ h => h) ?_
  refine VC.seq ?_
  refine VC.seq ?_
  refine VC.region ?_
  refine VL.q (q_move rfl) (by decide) ?_
  refine VL.q (q_lss rfl rfl) (by decide) ?_
  refine VL.to (fun _ _ h => h) ?_
  refine VC.cond_dec rfl (fun h5 => ?_) (fun h5 => ?_)
  ·
    replace hS := it_t h5 hS
    refine VC.seq ?_
    refine VC.seq ?_
    refine VC.region ?_
    refine VL.q (q_move rfl) (by decide) ?_
    refine VL.q (q_eql rfl rfl) (by decide) ?_
    refine VL.to (fun _ _ h => h) ?_
    refine VC.cond_dec rfl (fun h7 => ?_) (fun h7 => ?_)
    ·
      replace hS := it_t h7 hS
      refine VC.seq ?_
      refine VC.region ?_
      refine VL.q (q_assign rfl) (by decide) ?_
      refine VL.to (fun _ _ h => h) ?_
      cases hS
      exact VC.ret (fin1 (.inr rfl) rfl rfl () rfl trivial (fun _ _ => trivial) (fun _ _ => trivial))
    ·
      replace hS := it_f h7 hS
      refine VC.skip_to (fun _ _ h => h) ?_
      refine VC.seq ?_
      refine VC.region ?_
      refine VL.q (q_move rfl) (by decide) ?_
      obtain ⟨b9, hS⟩ := gd_s hS
      refine VL.q (q_sub rfl rfl b9) (by decide) ?_
      cases hS
  ·
    replace hS := it_f h5 hS
    refine VC.skip_to (fun _ _ h => h) ?_
    refine VC.seq ?_
    refine VC.region ?_
    refine VL.q (q_move rfl) (by decide) ?_
    obtain ⟨b13, hS⟩ := gd_s hS
    refine VL.q (q_rem rfl rfl b13) (by decide) ?_
    obtain ⟨b14, hS⟩ := gd_s hS
    refine VL.q (q_add rfl rfl b14) (by decide) ?_
    obtain ⟨b15, hS⟩ := gd_s hS
    refine VL.q (q_conv Tryz.underlying3 Tryz.underlying5 rfl (wu8_in b15)) (by decide) ?_
    obtain ⟨b16_15, hS⟩ := gd_s hS
    obtain ⟨u16_2, eu16_2, hS⟩ := lt_s hS
    refine VL.setv 15 rfl (congrArg (Value.int .u8) (u8_z b16_15 eu16_2)) ?_
    refine VL.lit (α := UInt8) (xs := [.tmp 15]) (vs := [.int .u8 (u16_2.toNat : Int)]) [u16_2] Tryz.underlying23 glit5 (by decide) rfl rfl rfl rfl (by decide) (fun _ _ _ _ => trivial) (by decide) (fun s16_1 hs16_1 => ?_) (by decide)
    replace hS := lt_to hs16_1 hS
    refine VL.q (q_b2s (s := s16_1) Tryz.underlying23 Tryz.underlying5 Tryz.underlying9 rfl) (by decide) ?_
    refine VL.q (q_assign rfl) (by decide) ?_
    refine VL.to (fun _ _ h => h) ?_
    refine VC.keep [0, 3] rfl ?_
    refine VC.seq ?_
    refine VC.block ?_
    refine VC.iter (S := Int × Str) (fun sg => (sg.1, sg.2)) (fun sg => [(0, i64 sg.1), (3, str sg.2)]) (fun sg => Mo.tt) (fun sg => Ow.emp) (n_0, s16_1.l) [0, 3] hS rfl ?_
    clear hS
    rintro ⟨n0_4, s3_5⟩ m1 y1 hS hK1
    show VC _ _ _ _ _ [(0, i64 n0_4), (3, str s3_5)] (Mo.and Mo.tt _) (Ow.emp)
    refine VC.seq ?_
    refine VC.seq ?_
    refine VC.region ?_
    refine VL.q (q_move rfl) (by decide) ?_
    refine VL.q (q_geq rfl rfl) (by decide) ?_
    refine VL.to (fun _ _ h => h) ?_
    refine VC.cond_dec rfl (fun h19 => ?_) (fun h19 => ?_)
    ·
      replace hS := it_t h19 hS
      refine VC.skip_to (fun _ _ h => h) ?_
      refine VC.block ?_
      refine VC.seq ?_
      refine VC.region ?_
      refine VL.q (q_move rfl) (by decide) ?_
      obtain ⟨b21, hS⟩ := gd_s hS
      refine VL.q (q_quo rfl rfl b21.1 (wi64_in b21.2)) (by decide) ?_
      refine VL.q (q_assign rfl) (by decide) ?_
      refine VL.to (fun _ _ h => h) ?_
      refine VC.region ?_
      refine VL.q (q_move rfl) (by decide) ?_
      obtain ⟨b23, hS⟩ := gd_s hS
      refine VL.q (q_rem rfl rfl b23) (by decide) ?_
      obtain ⟨b24, hS⟩ := gd_s hS
      refine VL.q (q_add rfl rfl b24) (by decide) ?_
      obtain ⟨b25, hS⟩ := gd_s hS
      refine VL.q (q_conv Tryz.underlying3 Tryz.underlying5 rfl (wu8_in b25)) (by decide) ?_
      obtain ⟨b26_25, hS⟩ := gd_s hS
      obtain ⟨u26_7, eu26_7, hS⟩ := lt_s hS
      refine VL.setv 25 rfl (congrArg (Value.int .u8) (u8_z b26_25 eu26_7)) ?_
      refine VL.lit (α := UInt8) (xs := [.tmp 25]) (vs := [.int .u8 (u26_7.toNat : Int)]) [u26_7] Tryz.underlying23 glit5 (by decide) rfl rfl rfl rfl (by decide) (fun _ _ _ _ => trivial) (by decide) (fun s26_6 hs26_6 => ?_) (by decide)
      replace hS := lt_to hs26_6 hS
      refine VL.q (q_b2s (s := s26_6) Tryz.underlying23 Tryz.underlying5 Tryz.underlying9 rfl) (by decide) ?_
      refine VL.q (q_move rfl) (by decide) ?_
      obtain ⟨b29, hS⟩ := gd_s hS
      obtain ⟨y29_9, ey29_9, hS⟩ := lt_s hS
      refine VL.q (q_catE rfl rfl b29 ey29_9) (by decide) ?_
      refine VL.q (q_assign rfl) (by decide) ?_
      refine VL.rnd ((n0_4 / 10), y29_9) [0, 3] (fun _ _ h => h) (go2 hS hK1) rfl
    ·
      replace hS := it_f h19 hS
      replace hS := up2 hS hK1
      refine VC.exit_to (fun _ _ h => h) ?_
      refine VC.seq ?_
      refine VC.region ?_
      refine VL.q (q_move rfl) (by decide) ?_
      refine VL.q (q_assign rfl) (by decide) ?_
      refine VL.to (fun _ _ h => h) ?_
      cases hS
      exact VC.ret (fin1 (.inr rfl) rfl rfl () rfl trivial (fun _ _ => trivial) (fun _ _ => trivial))

set_option maxHeartbeats 4000000 in
set_option maxRecDepth 100000 in
theorem rectoref3_Decimal_ct (n_0 : Int) {r : Str} (hS : Sh.rectoref3_Decimal n_0 = some r) :
    Ct Tryz.prog 94 [i64 n_0] Mo.tt (Ow.emp) (X := Unit) (fun _ => str r) (fun _ => True) (fun _ => Mo.tt) (fun _ => Ow.emp) := by
  refine Ct.of Tryz.func94 rfl (by kernel_rfl) Tryz.ntmps94 (by simp) fun c => ?_
  unfold Sh.rectoref3_Decimal at hS
  refine VC.seq ?_
  refine VC.region ?_
  refine VL.q (q_assign rfl) (by decide) ?_
  refine VL.to (fun _ _ h => h) ?_
  refine VC.seq ?_
  refine VC.seq ?_
  refine VC.region ?_
  refine VL.q (q_move rfl) (by decide) ?_
  refine VL.q (q_lss rfl rfl) (by decide) ?_
  refine VL.to (fun _ _ h => h) ?_
  refine VC.cond_dec rfl (fun h5 => ?_) (fun h5 => ?_)
  ·
    replace hS := it_t h5 hS
    refine VC.seq ?_
    refine VC.seq ?_
    refine VC.region ?_
    refine VL.q (q_move rfl) (by decide) ?_
    refine VL.q (q_eql rfl rfl) (by decide) ?_
    refine VL.to (fun _ _ h => h) ?_
    refine VC.cond_dec rfl (fun h7 => ?_) (fun h7 => ?_)
    ·
      replace hS := it_t h7 hS
      refine VC.seq ?_
      refine VC.region ?_
      refine VL.q (q_assign rfl) (by decide) ?_
      refine VL.to (fun _ _ h => h) ?_
      cases hS
      exact VC.ret (fin1 (.inr rfl) rfl rfl () rfl trivial (fun _ _ => trivial) (fun _ _ => trivial))
    ·
      replace hS := it_f h7 hS
      refine VC.skip_to (fun _ _ h => h) ?_
      refine VC.seq ?_
      refine VC.region ?_
      refine VL.q (q_move rfl) (by decide) ?_
      obtain ⟨b9, hS⟩ := gd_s hS
      refine VL.q (q_sub rfl rfl b9) (by decide) ?_
      obtain ⟨y10_1, ey10_1, hS⟩ := bd_s hS
      refine VL.q (q_call (rectoref3_Decimal_r_ct (0 - n_0) ey10_1) rfl (fun _ _ => rfl)) (by decide) ?_
      obtain ⟨b11, hS⟩ := gd_s hS
      obtain ⟨y11_2, ey11_2, hS⟩ := lt_s hS
      refine VL.q (q_catE rfl rfl b11 ey11_2) (by decide) ?_
      refine VL.q (q_assign rfl) (by decide) ?_
      refine VL.to (fun _ _ h => h) ?_
      cases hS
      exact VC.ret (fin1 (.inr rfl) rfl rfl () rfl trivial (fun _ _ => trivial) (fun _ _ => trivial))
  ·
    replace hS := it_f h5 hS
    refine VC.skip_to (fun _ _ h => h) ?_
    refine VC.seq ?_
    refine VC.region ?_
    refine VL.q (q_move rfl) (by decide) ?_
    obtain ⟨b13, hS⟩ := gd_s hS
    refine VL.q (q_rem rfl rfl b13) (by decide) ?_
    obtain ⟨b14, hS⟩ := gd_s hS
    refine VL.q (q_add rfl rfl b14) (by decide) ?_
    obtain ⟨b15, hS⟩ := gd_s hS
    refine VL.q (q_conv Tryz.underlying3 Tryz.underlying5 rfl (wu8_in b15)) (by decide) ?_
    obtain ⟨b16_15, hS⟩ := gd_s hS
    obtain ⟨u16_4, eu16_4, hS⟩ := lt_s hS
    refine VL.setv 15 rfl (congrArg (Value.int .u8) (u8_z b16_15 eu16_4)) ?_
    refine VL.lit (α := UInt8) (xs := [.tmp 15]) (vs := [.int .u8 (u16_4.toNat : Int)]) [u16_4] Tryz.underlying23 glit5 (by decide) rfl rfl rfl rfl (by decide) (fun _ _ _ _ => trivial) (by decide) (fun s16_3 hs16_3 => ?_) (by decide)
    replace hS := lt_to hs16_3 hS
    refine VL.q (q_b2s (s := s16_3) Tryz.underlying23 Tryz.underlying5 Tryz.underlying9 rfl) (by decide) ?_
    refine VL.q (q_assign rfl) (by decide) ?_
    refine VL.to (fun _ _ h => h) ?_
    refine VC.keep [0, 3] rfl ?_
    refine VC.seq ?_
    refine VC.block ?_
    refine VC.iter (S := Int × Str) (fun sg => (sg.1, sg.2)) (fun sg => [(0, i64 sg.1), (3, str sg.2)]) (fun sg => Mo.tt) (fun sg => Ow.emp) (n_0, s16_3.l) [0, 3] hS rfl ?_
    clear hS
    rintro ⟨n0_6, s3_7⟩ m1 y1 hS hK1
    show VC _ _ _ _ _ [(0, i64 n0_6), (3, str s3_7)] (Mo.and Mo.tt _) (Ow.emp)
    refine VC.seq ?_
    refine VC.seq ?_
    refine VC.region ?_
    refine VL.q (q_move rfl) (by decide) ?_
    refine VL.q (q_geq rfl rfl) (by decide) ?_
    refine VL.to (fun _ _ h => h) ?_
    refine VC.cond_dec rfl (fun h19 => ?_) (fun h19 => ?_)
    ·
      replace hS := it_t h19 hS
      refine VC.skip_to (fun _ _ h => h) ?_
      refine VC.block ?_
      refine VC.seq ?_
      refine VC.region ?_
      refine VL.q (q_move rfl) (by decide) ?_
      obtain ⟨b21, hS⟩ := gd_s hS
      refine VL.q (q_quo rfl rfl b21.1 (wi64_in b21.2)) (by decide) ?_
      refine VL.q (q_assign rfl) (by decide) ?_
      refine VL.to (fun _ _ h => h) ?_
      refine VC.region ?_
      refine VL.q (q_move rfl) (by decide) ?_
      obtain ⟨b23, hS⟩ := gd_s hS
      refine VL.q (q_rem rfl rfl b23) (by decide) ?_
      obtain ⟨b24, hS⟩ := gd_s hS
      refine VL.q (q_add rfl rfl b24) (by decide) ?_
      obtain ⟨b25, hS⟩ := gd_s hS
      refine VL.q (q_conv Tryz.underlying3 Tryz.underlying5 rfl (wu8_in b25)) (by decide) ?_
      obtain ⟨b26_25, hS⟩ := gd_s hS
      obtain ⟨u26_9, eu26_9, hS⟩ := lt_s hS
      refine VL.setv 25 rfl (congrArg (Value.int .u8) (u8_z b26_25 eu26_9)) ?_
      refine VL.lit (α := UInt8) (xs := [.tmp 25]) (vs := [.int .u8 (u26_9.toNat : Int)]) [u26_9] Tryz.underlying23 glit5 (by decide) rfl rfl rfl rfl (by decide) (fun _ _ _ _ => trivial) (by decide) (fun s26_8 hs26_8 => ?_) (by decide)
      replace hS := lt_to hs26_8 hS
      refine VL.q (q_b2s (s := s26_8) Tryz.underlying23 Tryz.underlying5 Tryz.underlying9 rfl) (by decide) ?_
      refine VL.q (q_move rfl) (by decide) ?_
      obtain ⟨b29, hS⟩ := gd_s hS
      obtain ⟨y29_11, ey29_11, hS⟩ := lt_s hS
      refine VL.q (q_catE rfl rfl b29 ey29_11) (by decide) ?_
      refine VL.q (q_assign rfl) (by decide) ?_
      refine VL.rnd ((n0_6 / 10), y29_11) [0, 3] (fun _ _ h => h) (go2 hS hK1) rfl
    ·
      replace hS := it_f h19 hS
      replace hS := up2 hS hK1
      refine VC.exit_to (fun _ _ h => h) ?_
      refine VC.seq ?_
      refine VC.region ?_
      refine VL.q (q_move rfl) (by decide) ?_
      refine VL.q (q_assign rfl) (by decide) ?_
      refine VL.to (fun _ _ h => h) ?_
      cases hS
      exact VC.ret (fin1 (.inr rfl) rfl rfl () rfl trivial (fun _ _ => trivial) (fun _ _ => trivial))

set_option maxHeartbeats 4000000 in
set_option maxRecDepth 100000 in
theorem rectoref3_Word_ct (e_0 : Int) {r : Str} (hS : Sh.rectoref3_Word e_0 = some r) :
    Ct Tryz.prog 116 [i64 e_0] Mo.tt (Ow.emp) (X := Unit) (fun _ => str r) (fun _ => True) (fun _ => Mo.tt) (fun _ => Ow.emp) := by
  refine Ct.of Tryz.func116 rfl (by kernel_rfl) Tryz.ntmps116 (by simp) fun c => ?_
  unfold Sh.rectoref3_Word at hS
  refine VC.seq ?_
  refine VC.region ?_
  refine VL.q (q_assign rfl) (by decide) ?_
  refine VL.to (fun _ _ h => h) ?_
  refine VC.seq ?_
  refine VC.region ?_
  refine VL.lit (α := Str) (xs := [.const (str [111, 107]), .const (str [97, 114, 103]), .const (str [102, 111, 114, 109]), .const (str [115, 104, 111, 114, 116]), .const (str [108, 111, 110, 103]), .const (str [110, 97, 109, 101]), .const (str [116, 119, 105, 99, 101]), .const (str [115, 116, 97, 116, 101]), .const (str [100, 105, 114, 116, 121]), .const (str [99, 111, 110, 102, 108, 105, 99, 116]), .const (str [115, 97, 109, 101]), .const (str [119, 97, 121]), .const (str [115, 117, 109]), .const (str [100, 111, 119, 110]), .const (str [113, 117, 111, 116, 97])]) (vs := [str [111, 107], str [97, 114, 103], str [102, 111, 114, 109], str [115, 104, 111, 114, 116], str [108, 111, 110, 103], str [110, 97, 109, 101], str [116, 119, 105, 99, 101], str [115, 116, 97, 116, 101], str [100, 105, 114, 116, 121], str [99, 111, 110, 102, 108, 105, 99, 116], str [115, 97, 109, 101], str [119, 97, 121], str [115, 117, 109], str [100, 111, 119, 110], str [113, 117, 111, 116, 97]]) [[111, 107], [97, 114, 103], [102, 111, 114, 109], [115, 104, 111, 114, 116], [108, 111, 110, 103], [110, 97, 109, 101], [116, 119, 105, 99, 101], [115, 116, 97, 116, 101], [100, 105, 114, 116, 121], [99, 111, 110, 102, 108, 105, 99, 116], [115, 97, 109, 101], [119, 97, 121], [115, 117, 109], [100, 111, 119, 110], [113, 117, 111, 116, 97]] Tryz.underlying42 glit9 (by decide) rfl rfl rfl rfl (by decide) (fun _ _ _ _ => trivial) (by decide) (fun s4_1 hs4_1 => ?_) (by decide)
  replace hS := lt_to hs4_1 hS
  refine VL.q (q_assign rfl) (by decide) ?_
  refine VL.to (fun _ _ h => h) ?_
  refine VC.seq ?_
  refine VC.cutJ (S := Bool) (fun (x12_3 : Bool) => x12_3) (fun (x12_3 : Bool) => [(0, i64 e_0), (3, s4_1.val), (12, .bool x12_3)]) (fun (x12_3 : Bool) => Mo.tt) (fun (x12_3 : Bool) => Ow.emp) hS ?_ ?_
  · -- up to where ways meet
    clear hS
    intro k4 hS
    refine VC.region ?_
    refine VL.q (q_move rfl) (by decide) ?_
    refine VL.q (q_lss rfl rfl) (by decide) ?_
    refine VL.q (q_move rfl) (by decide) ?_
    refine VL.split_dec 7 rfl (fun h7 => ?_) (fun h7 => ?_)
    ·
      replace hS := it_t h7 hS
      refine VL.gn rfl rfl rfl (by decide) ?_
      refine VL.gn rfl rfl rfl (by decide) ?_
      refine VL.gn rfl rfl rfl (by decide) ?_
      refine VL.gn rfl rfl rfl (by decide) ?_
      refine VL.q (q_pick_t rfl rfl) (by decide) ?_
      refine VL.mt true [0, 3, 12] (fun _ _ h => h) hS rfl
    ·
      replace hS := it_f h7 hS
      refine VL.gy rfl rfl (q_move rfl) (by decide) ?_
      refine VL.gy rfl rfl (q_move rfl) (by decide) ?_
      refine VL.gy rfl rfl (q_ln (s := s4_1) Tryz.underlying42 rfl) (by decide) ?_
      refine VL.gy rfl rfl (q_geq rfl rfl) (by decide) ?_
      refine VL.q (q_pick_f rfl rfl) (by decide) ?_
      refine VL.mt (decide ((s4_1.l.length : Int) ≤ e_0)) [0, 3, 12] (fun _ _ h => h) hS rfl
  · -- from there
    clear hS
    rintro x12_3 hS
    show VC _ _ _ _ _ [(0, i64 e_0), (3, s4_1.val), (12, .bool x12_3)] (Mo.and Mo.tt _) (Ow.emp)
    refine VC.cond rfl (fun h12 => ?_) (fun h12 => ?_)
    ·
      replace hS := it_t h12 hS
      refine VC.seq ?_
      refine VC.region ?_
      refine VL.q (q_assign rfl) (by decide) ?_
      refine VL.to (fun _ _ h => h) ?_
      cases hS
      exact VC.ret (fin1 (.inr rfl) rfl rfl () rfl trivial (fun _ _ => trivial) (fun _ _ => trivial))
    ·
      replace hS := it_b h12 hS
      refine VC.skip_to (fun _ _ h => h) ?_
      refine VC.seq ?_
      refine VC.region ?_
      refine VL.q (q_move rfl) (by decide) ?_
      refine VL.q (q_move rfl) (by decide) ?_
      obtain ⟨z15_5, nz15_5, hz15_5, hS⟩ := at_s hS
      refine VL.q (q_ixm (s := s4_1) Tryz.underlying42 gsz9 rfl rfl nz15_5 (lt_of_get nz15_5 hz15_5)) (by decide) ?_
      refine VL.q (q_el (s := s4_1) gone9 rfl hz15_5 rfl) (by decide) ?_
      refine VL.q (q_assign rfl) (by decide) ?_
      refine VL.to (fun _ _ h => h) ?_
      cases hS
      exact VC.ret (fin1 (.inr rfl) rfl rfl () rfl trivial (fun _ _ => trivial) (fun _ _ => trivial))

set_option maxHeartbeats 4000000 in
set_option maxRecDepth 100000 in
theorem rectoref3_Words_ct (w_0 : Rectoref3Wrong) {r : Str} (hS : Sh.rectoref3_Words w_0.pl = some r) :
    Ct Tryz.prog 44 [.agg #[w_0.parts.val, i64 w_0.err]] w_0.parts.ok (Ow.emp) (X := Unit) (fun _ => str r) (fun _ => True) (fun _ => Mo.tt) (fun _ => Ow.emp) := by
  refine Ct.of Tryz.func44 rfl (by kernel_rfl) Tryz.ntmps44 (by simp) fun c => ?_
  unfold Sh.rectoref3_Words at hS
  refine VC.seq ?_
  refine VC.region ?_
  refine VL.box (cs := [w_0.parts.val, i64 w_0.err]) rfl rfl (by decide) fun b1_1 => ?_
  refine VL.q (q_assign rfl) (by decide) ?_
  refine VL.to (fun _ _ h => h) ?_
  refine VC.seq ?_
  refine VC.region ?_
  refine VL.q (q_assign rfl) (by decide) ?_
  refine VL.to (fun _ _ h => h) ?_
  refine VC.seq ?_
  refine VC.seq ?_
  refine VC.region ?_
  refine VL.q (q_assign rfl) (by decide) ?_
  refine VL.to (fun _ _ h => h) ?_
  refine VC.block ?_
  refine VC.iter (S := Str × Int) (fun sg => (sg.1, sg.2)) (fun sg => [(1, ptr b1_1 0), (3, str sg.1), (4, i64 sg.2)]) (fun sg => Mo.tt) (fun sg => Ow.star (Blk b1_1 [w_0.parts.val, i64 w_0.err] 34) (Ow.emp)) ([], 0) [1, 3, 4] hS rfl ?_
  clear hS
  rintro ⟨s3_2, i4_3⟩ m1 y1 hS hK1
  show VC _ _ _ _ _ [(1, ptr b1_1 0), (3, str s3_2), (4, i64 i4_3)] (Mo.and Mo.tt _) (Ow.star (Blk b1_1 [w_0.parts.val, i64 w_0.err] 34) (Ow.emp))
  refine VC.seq ?_
  refine VC.seq ?_
  refine VC.region ?_
  refine VL.q (q_move rfl) (by decide) ?_
  refine VL.q (q_field gfa34_0 rfl) (by decide) ?_
  refine VL.q (q_fe gone32 rfl rfl) (by decide) ?_
  refine VL.q (q_ln (s := w_0.parts) Tryz.underlying32 rfl) (by decide) ?_
  refine VL.q (q_lss rfl rfl) (by decide) ?_
  refine VL.to (fun _ _ h => h) ?_
  refine VC.cond_dec rfl (fun h9 => ?_) (fun h9 => ?_)
  ·
    replace hS := it_t h9 hS
    refine VC.skip_to (fun _ _ h => h) ?_
    refine VC.seq ?_
    refine VC.block ?_
    refine VC.draw ((List.range 19).map fun k => (k, true)) mixed (by kernel_rfl) (by kernel_rfl) (by kernel_rfl) ?_
    refine VD.q rfl (q_move rfl) (by decide) ?_
    refine VD.q rfl (q_field gfa34_0 rfl) (by decide) ?_
    refine VD.q rfl (q_fe gone32 rfl rfl) (by decide) ?_
    refine VD.q rfl (q_move rfl) (by decide) ?_
    obtain ⟨z16_4, nz16_4, hz16_4, hS⟩ := at_s hS
    refine VD.q rfl (q_ixm (s := w_0.parts) Tryz.underlying32 gsz95 rfl rfl nz16_4 (lt_of_get nz16_4 hz16_4)) (by decide) ?_
    refine VD.q rfl (q_field gfa95_0 rfl) (by decide) ?_
    refine VD.q rfl (q_elf (s := w_0.parts) gone9 rfl hz16_4 rfl) (by decide) ?_
    obtain ⟨b19, hS⟩ := gd_s hS
    obtain ⟨y19_5, ey19_5, hS⟩ := lt_s hS
    refine VD.q rfl (q_catE rfl rfl b19 ey19_5) (by decide) ?_
    obtain ⟨b20, hS⟩ := gd_s hS
    obtain ⟨y20_6, ey20_6, hS⟩ := lt_s hS
    refine VD.q rfl (q_catE rfl rfl b20 ey20_6) (by decide) ?_
    refine VD.q rfl (q_field gfa34_0 rfl) (by decide) ?_
    refine VD.q rfl (q_fe gone32 rfl rfl) (by decide) ?_
    refine VD.q rfl (q_move rfl) (by decide) ?_
    obtain ⟨z24_7, nz24_7, hz24_7, hS⟩ := at_s hS
    refine VD.q rfl (q_ixm (s := w_0.parts) Tryz.underlying32 gsz95 rfl rfl nz24_7 (lt_of_get nz24_7 hz24_7)) (by decide) ?_
    refine VD.q rfl (q_field gfa95_1 rfl) (by decide) ?_
    refine VD.q rfl (q_elf (s := w_0.parts) gone3 rfl hz24_7 rfl) (by decide) ?_
    obtain ⟨y27_8, ey27_8, hS⟩ := bd_s hS
    refine VD.q rfl (q_call (rectoref3_Decimal_ct z24_7.at_ ey27_8) rfl (fun _ _ => rfl)) (by decide) ?_
    obtain ⟨b28, hS⟩ := gd_s hS
    obtain ⟨y28_9, ey28_9, hS⟩ := lt_s hS
    refine VD.q rfl (q_catE rfl rfl b28 ey28_9) (by decide) ?_
    obtain ⟨b29, hS⟩ := gd_s hS
    obtain ⟨y29_10, ey29_10, hS⟩ := lt_s hS
    refine VD.q rfl (q_catE rfl rfl b29 ey29_10) (by decide) ?_
    refine VD.q rfl (q_assign rfl) (by decide) ?_
    refine VD.to (fun _ _ h => h) ?_
    refine VC.keep [1, 3, 4] rfl ?_
    refine VC.region ?_
    refine VL.q (q_move rfl) (by decide) ?_
    obtain ⟨b11, hS⟩ := gd_s hS
    refine VL.q (q_add rfl rfl b11) (by decide) ?_
    refine VL.q (q_assign rfl) (by decide) ?_
    refine VL.rnd (y29_10, (i4_3 + 1)) [1, 3, 4] (fun _ _ h => h) (go2 hS hK1) rfl
  ·
    replace hS := it_f h9 hS
    replace hS := up2 hS hK1
    refine VC.exit_to (fun _ _ h => h) ?_
    refine VC.seq ?_
    refine VC.region ?_
    refine VL.q (q_move rfl) (by decide) ?_
    refine VL.q (q_field gfa34_1 rfl) (by decide) ?_
    refine VL.q (q_fe gone3 rfl rfl) (by decide) ?_
    obtain ⟨y33_11, ey33_11, hS⟩ := bd_s hS
    refine VL.q (q_call (rectoref3_Word_ct w_0.err ey33_11) rfl (fun _ _ => rfl)) (by decide) ?_
    obtain ⟨b34, hS⟩ := gd_s hS
    obtain ⟨y34_12, ey34_12, hS⟩ := lt_s hS
    refine VL.q (q_catE rfl rfl b34 ey34_12) (by decide) ?_
    refine VL.q (q_assign rfl) (by decide) ?_
    refine VL.to (fun _ _ h => h) ?_
    refine VC.keep [2] rfl ?_
    cases hS
    exact VC.ret (fin1 (.inr rfl) rfl rfl () rfl trivial (fun _ _ => trivial) (fun _ _ => trivial))

set_option maxHeartbeats 4000000 in
set_option maxRecDepth 100000 in
theorem rectolaw2_Tells_ct (err_0 : Er) (w_1 : Rectoref3Wrong) {r : Bool} (hS : Sh.rectolaw2_Tells err_0.pl w_1.pl = some r) :
    Ct Tryz.prog 10 [err_0.val, .agg #[w_1.parts.val, i64 w_1.err]] (err_0.ok.and (w_1.parts.ok.and Gl)) (Ow.emp) (X := Unit) (fun _ => .bool r) (fun _ => True) (fun _ => Mo.tt) (fun _ => Ow.emp) := by
  refine Ct.of Tryz.func10 rfl (by kernel_rfl) Tryz.ntmps10 (by simp) fun c => ?_
  unfold Sh.rectolaw2_Tells at hS
  refine VC.seq ?_
  refine VC.region ?_
  refine VL.box (cs := [w_1.parts.val, i64 w_1.err]) rfl rfl (by decide) fun b3_1 => ?_
  refine VL.q (q_assign rfl) (by decide) ?_
  refine VL.to (fun _ _ h => h) ?_
  refine VC.seq ?_
  refine VC.seq ?_
  refine VC.region ?_
  refine VL.q (q_field gfa34_1 rfl) (by decide) ?_
  refine VL.q (q_fe gone3 rfl rfl) (by decide) ?_
  refine VL.q (q_eql rfl rfl) (by decide) ?_
  refine VL.to (fun _ _ h => h) ?_
  refine VC.cond_dec rfl (fun h8 => ?_) (fun h8 => ?_)
  ·
    replace hS := it_t h8 hS
    refine VC.seq ?_
    refine VC.region ?_
    refine VL.q (q_move rfl) (by decide) ?_
    refine VL.q (q_ereq Tryz.underlying38 rfl) (by decide) ?_
    refine VL.q (q_assign rfl) (by decide) ?_
    refine VL.to (fun _ _ h => h) ?_
    cases hS
    exact VC.ret (fin1 (.inr rfl) rfl rfl () rfl trivial (fun _ _ => trivial) (fun _ _ => trivial))
  ·
    replace hS := it_f h8 hS
    refine VC.skip_to (fun _ _ h => h) ?_
    refine VC.seq ?_
    refine VC.cutJ (S := Bool) (fun (x27_2 : Bool) => x27_2) (fun (x27_2 : Bool) => [(0, err_0.val), (3, ptr b3_1 0), (27, .bool x27_2)]) (fun (x27_2 : Bool) => Mo.tt) (fun (x27_2 : Bool) => Ow.star (Blk b3_1 [w_1.parts.val, i64 w_1.err] 34) (Ow.emp)) hS ?_ ?_
    · -- up to where ways meet
      clear hS
      intro k3 hS
      refine VC.draw ((List.range 17).map fun k => (k, true)) mixed (by kernel_rfl) (by kernel_rfl) (by kernel_rfl) ?_
      refine VD.q rfl (q_move rfl) (by decide) ?_
      refine VD.q rfl (q_ereq Tryz.underlying38 rfl) (by decide) ?_
      refine VD.q rfl (q_move rfl) (by decide) ?_
      refine VD.split_dec 13 rfl (fun h13 => ?_) (fun h13 => ?_)
      ·
        replace hS := it_t h13 hS
        refine VD.gn rfl rfl rfl rfl (by decide) ?_
        refine VD.gn rfl rfl rfl rfl (by decide) ?_
        refine VD.gn rfl rfl rfl rfl (by decide) ?_
        refine VD.gn rfl rfl rfl rfl (by decide) ?_
        refine VD.gn rfl rfl rfl rfl (by decide) ?_
        refine VD.q rfl (q_pick_t rfl rfl) (by decide) ?_
        refine VD.q rfl (q_move rfl) (by decide) ?_
        refine VD.gn rfl rfl rfl rfl (by decide) ?_
        refine VD.gn rfl rfl rfl rfl (by decide) ?_
        refine VD.gn rfl rfl rfl rfl (by decide) ?_
        refine VD.gn rfl rfl rfl rfl (by decide) ?_
        refine VD.gn rfl rfl rfl rfl (by decide) ?_
        refine VD.gn rfl rfl rfl rfl (by decide) ?_
        refine VD.q rfl (q_pick_t rfl rfl) (by decide) ?_
        refine VD.mt true [0, 3, 27] (fun _ _ h => h) hS rfl
      ·
        replace hS := it_f h13 hS
        refine VD.gy rfl rfl rfl (q_move rfl) (by decide) ?_
        obtain ⟨y15_4, ey15_4, hS⟩ := bd_s hS
        refine VD.gy rfl rfl rfl (q_say rfl (text_says err_0 ey15_4)) (by decide) ?_
        refine VD.gy rfl rfl rfl (q_fes gagg34 rfl rfl) (by decide) ?_
        obtain ⟨y17_5, ey17_5, hS⟩ := bd_s hS
        refine VD.gy rfl rfl rfl (q_call (rectoref3_Words_ct w_1 ey17_5) rfl (fun _ _ => rfl)) (by decide) ?_
        refine VD.gy rfl rfl rfl (q_sne rfl rfl) (by decide) ?_
        refine VD.q rfl (q_pick_f rfl rfl) (by decide) ?_
        refine VD.q rfl (q_move rfl) (by decide) ?_
        refine VD.split_ndec 20 rfl (fun h20 => ?_) (fun h20 => ?_)
        ·
          replace hS := it_f h20 hS
          refine VD.gn rfl rfl rfl rfl (by decide) ?_
          refine VD.gn rfl rfl rfl rfl (by decide) ?_
          refine VD.gn rfl rfl rfl rfl (by decide) ?_
          refine VD.gn rfl rfl rfl rfl (by decide) ?_
          refine VD.gn rfl rfl rfl rfl (by decide) ?_
          refine VD.gn rfl rfl rfl rfl (by decide) ?_
          refine VD.q rfl (q_pick_t rfl rfl) (by decide) ?_
          refine VD.mt true [0, 3, 27] (fun _ _ h => h) hS rfl
        ·
          replace hS := it_t h20 hS
          refine VD.gy rfl rfl rfl (q_move rfl) (by decide) ?_
          refine VD.gy rfl rfl rfl (q_field gfa34_1 rfl) (by decide) ?_
          refine VD.gy rfl rfl rfl (q_fe gone3 rfl rfl) (by decide) ?_
          refine VD.gy rfl rfl rfl (q_mkif Tryz.underlying99 (fun _ h => by cases h) rfl) (by decide) ?_
          refine VD.gy rfl rfl rfl (q_call (is_ct err_0 w_1.err) rfl (fun _ _ => rfl)) (by decide) ?_
          refine VD.gy rfl rfl rfl (q_not rfl) (by decide) ?_
          refine VD.q rfl (q_pick_f rfl rfl) (by decide) ?_
          refine VD.mt (!decide (endNo err_0.pl = some w_1.err)) [0, 3, 27] (fun _ _ h => h) hS rfl
    · -- from there
      clear hS
      rintro x27_2 hS
      show VC _ _ _ _ _ [(0, err_0.val), (3, ptr b3_1 0), (27, .bool x27_2)] (Mo.and Mo.tt _) (Ow.star (Blk b3_1 [w_1.parts.val, i64 w_1.err] 34) (Ow.emp))
      refine VC.cond rfl (fun h27 => ?_) (fun h27 => ?_)
      ·
        replace hS := it_t h27 hS
        refine VC.seq ?_
        refine VC.region ?_
        refine VL.q (q_assign rfl) (by decide) ?_
        refine VL.to (fun _ _ h => h) ?_
        cases hS
        exact VC.ret (fin1 (.inr rfl) rfl rfl () rfl trivial (fun _ _ => trivial) (fun _ _ => trivial))
      ·
        replace hS := it_b h27 hS
        refine VC.skip_to (fun _ _ h => h) ?_
        refine VC.seq ?_
        refine VC.seq ?_
        refine VC.region ?_
        refine VL.q (q_field gfa34_0 rfl) (by decide) ?_
        refine VL.q (q_fe gone32 rfl rfl) (by decide) ?_
        refine VL.q (q_ln (s := w_1.parts) Tryz.underlying32 rfl) (by decide) ?_
        refine VL.q (q_eql rfl rfl) (by decide) ?_
        refine VL.to (fun _ _ h => h) ?_
        refine VC.cond_dec rfl (fun h31 => ?_) (fun h31 => ?_)
        ·
          replace hS := it_t h31 hS
          refine VC.seq ?_
          refine VC.region ?_
          refine VL.q (q_assign rfl) (by decide) ?_
          refine VL.to (fun _ _ h => h) ?_
          cases hS
          exact VC.ret (fin1 (.inr rfl) rfl rfl () rfl trivial (fun _ _ => trivial) (fun _ _ => trivial))
        ·
          replace hS := it_f h31 hS
          refine VC.skip_to (fun _ _ h => h) ?_
          refine VC.seq ?_
          refine VC.region ?_
          refine VL.alloc (cs := [.pointer none]) (by kernel_rfl) (by decide) fun b5_6 => ?_
          refine VL.to (fun _ _ h => h) ?_
          refine VC.seq ?_
          refine VC.seq ?_
          refine VC.region ?_
          refine VL.q (q_move rfl) (by decide) ?_
          refine VL.q (q_mkif Tryz.underlying102 (fun _ h => by cases h) rfl) (by decide) ?_
          rcases err_0 with _ | _ | ⟨eb7, ep7, ea7, ez7⟩
          · exact absurd hS (by simp [Er.pl])
          · exact absurd hS (by simp [Er.pl])
          dsimp only [Er.pl] at hS
          refine VL.addM (Cells eb7 0 [str ep7, i64 ea7, ez7.val]) (fun _ m => (InM.out (X := (Er.fault eb7 ep7 ea7 ez7).ok) _ m).1) ?_
          refine VL.addM ez7.ok (fun _ m => (InM.out (X := (Er.fault eb7 ep7 ea7 ez7).ok) _ m.2).2) ?_
          refine VL.callO (As.as_ct eb7 b5_6) rfl (by decide) ?_
          rintro _ _
          refine VL.q (q_not rfl) (by decide) ?_
          refine VL.q (q_move rfl) (by decide) ?_
          refine VL.gy rfl rfl (q_fe gone100 rfl rfl) (by decide) ?_
          refine VL.gy rfl rfl (q_peqn Tryz.underlying100 rfl) (by decide) ?_
          refine VL.q (q_pick_f rfl rfl) (by decide) ?_
          refine VL.to (fun _ _ h => h) ?_
          refine VC.keep [3, 5, 39] rfl ?_
          refine VC.cond_f rfl ?_
          refine VC.skip_to (fun _ _ h => h) ?_
          refine VC.seq ?_
          refine VC.draw ((List.range 23).map fun k => (k, true)) mixed (by kernel_rfl) (by kernel_rfl) (by kernel_rfl) ?_
          refine VD.q rfl (q_fe gone100 rfl rfl) (by decide) ?_
          refine VD.q rfl (q_nilCheck rfl) (by decide) ?_
          refine VD.q rfl (q_field gfa104_0 rfl) (by decide) ?_
          refine VD.q rfl (q_fm gone9 rfl rfl) (by decide) ?_
          refine VD.q rfl (q_field gfa34_0 rfl) (by decide) ?_
          refine VD.q rfl (q_fe gone32 rfl rfl) (by decide) ?_
          obtain ⟨z46_8, nz46_8, hz46_8, hS⟩ := at_s hS
          refine VD.q rfl (q_ixm (s := w_1.parts) Tryz.underlying32 gsz95 rfl rfl nz46_8 (lt_of_get nz46_8 hz46_8)) (by decide) ?_
          refine VD.q rfl (q_field gfa95_0 rfl) (by decide) ?_
          refine VD.q rfl (q_elf (s := w_1.parts) gone9 rfl hz46_8 rfl) (by decide) ?_
          refine VD.q rfl (q_seq rfl rfl) (by decide) ?_
          refine VD.q rfl (q_move rfl) (by decide) ?_
          refine VD.split_dec 50 rfl (fun h50 => ?_) (fun h50 => ?_)
          ·
            replace hS := it_t h50 hS
            refine VD.gy rfl rfl rfl (q_fe gone100 rfl rfl) (by decide) ?_
            refine VD.gy rfl rfl rfl (q_nilCheck rfl) (by decide) ?_
            refine VD.gy rfl rfl rfl (q_field gfa104_1 rfl) (by decide) ?_
            refine VD.gy rfl rfl rfl (q_fm gone3 rfl rfl) (by decide) ?_
            refine VD.gy rfl rfl rfl (q_field gfa34_0 rfl) (by decide) ?_
            refine VD.gy rfl rfl rfl (q_fe gone32 rfl rfl) (by decide) ?_
            obtain ⟨z57_9, nz57_9, hz57_9, hS⟩ := at_s hS
            refine VD.gy rfl rfl rfl (q_ixm (s := w_1.parts) Tryz.underlying32 gsz95 rfl rfl nz57_9 (lt_of_get nz57_9 hz57_9)) (by decide) ?_
            refine VD.gy rfl rfl rfl (q_field gfa95_1 rfl) (by decide) ?_
            refine VD.gy rfl rfl rfl (q_elf (s := w_1.parts) gone3 rfl hz57_9 rfl) (by decide) ?_
            refine VD.gy rfl rfl rfl (q_eql rfl rfl) (by decide) ?_
            refine VD.q rfl (q_pick_t rfl rfl) (by decide) ?_
            refine VD.q rfl (q_assign rfl) (by decide) ?_
            refine VD.to (fun _ _ h => h) ?_
            refine VC.keep [4] rfl ?_
            cases hS
            exact VC.ret (fin1 (.inr rfl) rfl rfl () rfl trivial (fun _ _ => trivial) (fun _ _ => trivial))
          ·
            replace hS := it_f h50 hS
            refine VD.gn rfl rfl rfl rfl (by decide) ?_
            refine VD.gn rfl rfl rfl rfl (by decide) ?_
            refine VD.gn rfl rfl rfl rfl (by decide) ?_
            refine VD.gn rfl rfl rfl rfl (by decide) ?_
            refine VD.gn rfl rfl rfl rfl (by decide) ?_
            refine VD.gn rfl rfl rfl rfl (by decide) ?_
            refine VD.gn rfl rfl rfl rfl (by decide) ?_
            refine VD.gn rfl rfl rfl rfl (by decide) ?_
            refine VD.gn rfl rfl rfl rfl (by decide) ?_
            refine VD.gn rfl rfl rfl rfl (by decide) ?_
            refine VD.q rfl (q_pick_f rfl rfl) (by decide) ?_
            refine VD.q rfl (q_assign rfl) (by decide) ?_
            refine VD.to (fun _ _ h => h) ?_
            refine VC.keep [4] rfl ?_
            cases hS
            exact VC.ret (fin1 (.inr rfl) rfl rfl () rfl trivial (fun _ _ => trivial) (fun _ _ => trivial))

set_option maxHeartbeats 4000000 in
set_option maxRecDepth 100000 in
theorem rectolaw7_ObjectLimits_ct (bytes_0 : Int) (items_1 : Int) (text_2 : Int) {r : Bool} (hS : Sh.rectolaw7_ObjectLimits bytes_0 items_1 text_2 = some r) :
    Ct Tryz.prog 3 [i64 bytes_0, i64 items_1, i64 text_2] Gl (Ow.emp) (X := Unit) (fun _ => .bool r) (fun _ => True) (fun _ => Mo.tt) (fun _ => Ow.emp) := by
  refine Ct.of Tryz.func3 rfl (by kernel_rfl) Tryz.ntmps3 (by simp) fun c => ?_
  unfold Sh.rectolaw7_ObjectLimits at hS
  refine VC.seq ?_
  refine VC.region ?_
  refine VL.q (q_assign rfl) (by decide) ?_
  refine VL.to (fun _ _ h => h) ?_
  refine VC.seq ?_
  refine VC.seq ?_
  refine VC.region ?_
  obtain ⟨y13_1, ey13_1, hS⟩ := bd_s hS
  refine VL.q (q_call (rectolaw7_known_ct ey13_1) rfl (fun _ _ => rfl)) (by decide) ?_
  refine VL.q (q_not rfl) (by decide) ?_
  refine VL.to (fun _ _ h => h) ?_
  refine VC.cond rfl (fun h14 => ?_) (fun h14 => ?_)
  ·
    replace hS := it_t h14 hS
    refine VC.seq ?_
    refine VC.region ?_
    refine VL.q (q_assign rfl) (by decide) ?_
    refine VL.to (fun _ _ h => h) ?_
    cases hS
    exact VC.ret (fin1 (.inr rfl) rfl rfl () rfl trivial (fun _ _ => trivial) (fun _ _ => trivial))
  ·
    replace hS := it_b h14 hS
    refine VC.skip_to (fun _ _ h => h) ?_
    refine VC.seq ?_
    refine VC.cutJ (S := Bool) (fun (x36_2 : Bool) => x36_2) (fun (x36_2 : Bool) => [(0, i64 bytes_0), (1, i64 items_1), (2, i64 text_2), (36, .bool x36_2)]) (fun (x36_2 : Bool) => Mo.tt) (fun (x36_2 : Bool) => Ow.emp) hS ?_ ?_
    · -- up to where ways meet
      clear hS
      intro k3 hS
      refine VC.region ?_
      refine VL.q (q_move rfl) (by decide) ?_
      refine VL.q (q_lss rfl rfl) (by decide) ?_
      refine VL.q (q_move rfl) (by decide) ?_
      refine VL.split_dec 17 rfl (fun h17 => ?_) (fun h17 => ?_)
      ·
        replace hS := it_t h17 hS
        refine VL.gn rfl rfl rfl (by decide) ?_
        refine VL.gn rfl rfl rfl (by decide) ?_
        refine VL.q (q_pick_t rfl rfl) (by decide) ?_
        refine VL.q (q_move rfl) (by decide) ?_
        refine VL.gn rfl rfl rfl (by decide) ?_
        refine VL.gn rfl rfl rfl (by decide) ?_
        refine VL.q (q_pick_t rfl rfl) (by decide) ?_
        refine VL.q (q_move rfl) (by decide) ?_
        refine VL.gn rfl rfl rfl (by decide) ?_
        refine VL.gn rfl rfl rfl (by decide) ?_
        refine VL.q (q_pick_t rfl rfl) (by decide) ?_
        refine VL.q (q_move rfl) (by decide) ?_
        refine VL.gn rfl rfl rfl (by decide) ?_
        refine VL.gn rfl rfl rfl (by decide) ?_
        refine VL.q (q_pick_t rfl rfl) (by decide) ?_
        refine VL.q (q_move rfl) (by decide) ?_
        refine VL.gn rfl rfl rfl (by decide) ?_
        refine VL.gn rfl rfl rfl (by decide) ?_
        refine VL.q (q_pick_t rfl rfl) (by decide) ?_
        refine VL.mt true [0, 1, 2, 36] (fun _ _ h => h) hS rfl
      ·
        replace hS := it_f h17 hS
        refine VL.gy rfl rfl (q_move rfl) (by decide) ?_
        refine VL.gy rfl rfl (q_gtr rfl rfl) (by decide) ?_
        refine VL.q (q_pick_f rfl rfl) (by decide) ?_
        refine VL.q (q_move rfl) (by decide) ?_
        refine VL.split_dec 21 rfl (fun h21 => ?_) (fun h21 => ?_)
        ·
          replace hS := it_t h21 hS
          refine VL.gn rfl rfl rfl (by decide) ?_
          refine VL.gn rfl rfl rfl (by decide) ?_
          refine VL.q (q_pick_t rfl rfl) (by decide) ?_
          refine VL.q (q_move rfl) (by decide) ?_
          refine VL.gn rfl rfl rfl (by decide) ?_
          refine VL.gn rfl rfl rfl (by decide) ?_
          refine VL.q (q_pick_t rfl rfl) (by decide) ?_
          refine VL.q (q_move rfl) (by decide) ?_
          refine VL.gn rfl rfl rfl (by decide) ?_
          refine VL.gn rfl rfl rfl (by decide) ?_
          refine VL.q (q_pick_t rfl rfl) (by decide) ?_
          refine VL.q (q_move rfl) (by decide) ?_
          refine VL.gn rfl rfl rfl (by decide) ?_
          refine VL.gn rfl rfl rfl (by decide) ?_
          refine VL.q (q_pick_t rfl rfl) (by decide) ?_
          refine VL.mt true [0, 1, 2, 36] (fun _ _ h => h) hS rfl
        ·
          replace hS := it_f h21 hS
          refine VL.gy rfl rfl (q_move rfl) (by decide) ?_
          refine VL.gy rfl rfl (q_lss rfl rfl) (by decide) ?_
          refine VL.q (q_pick_f rfl rfl) (by decide) ?_
          refine VL.q (q_move rfl) (by decide) ?_
          refine VL.split_dec 25 rfl (fun h25 => ?_) (fun h25 => ?_)
          ·
            replace hS := it_t h25 hS
            refine VL.gn rfl rfl rfl (by decide) ?_
            refine VL.gn rfl rfl rfl (by decide) ?_
            refine VL.q (q_pick_t rfl rfl) (by decide) ?_
            refine VL.q (q_move rfl) (by decide) ?_
            refine VL.gn rfl rfl rfl (by decide) ?_
            refine VL.gn rfl rfl rfl (by decide) ?_
            refine VL.q (q_pick_t rfl rfl) (by decide) ?_
            refine VL.q (q_move rfl) (by decide) ?_
            refine VL.gn rfl rfl rfl (by decide) ?_
            refine VL.gn rfl rfl rfl (by decide) ?_
            refine VL.q (q_pick_t rfl rfl) (by decide) ?_
            refine VL.mt true [0, 1, 2, 36] (fun _ _ h => h) hS rfl
          ·
            replace hS := it_f h25 hS
            refine VL.gy rfl rfl (q_move rfl) (by decide) ?_
            refine VL.gy rfl rfl (q_gtr rfl rfl) (by decide) ?_
            refine VL.q (q_pick_f rfl rfl) (by decide) ?_
            refine VL.q (q_move rfl) (by decide) ?_
            refine VL.split_dec 29 rfl (fun h29 => ?_) (fun h29 => ?_)
            ·
              replace hS := it_t h29 hS
              refine VL.gn rfl rfl rfl (by decide) ?_
              refine VL.gn rfl rfl rfl (by decide) ?_
              refine VL.q (q_pick_t rfl rfl) (by decide) ?_
              refine VL.q (q_move rfl) (by decide) ?_
              refine VL.gn rfl rfl rfl (by decide) ?_
              refine VL.gn rfl rfl rfl (by decide) ?_
              refine VL.q (q_pick_t rfl rfl) (by decide) ?_
              refine VL.mt true [0, 1, 2, 36] (fun _ _ h => h) hS rfl
            ·
              replace hS := it_f h29 hS
              refine VL.gy rfl rfl (q_move rfl) (by decide) ?_
              refine VL.gy rfl rfl (q_lss rfl rfl) (by decide) ?_
              refine VL.q (q_pick_f rfl rfl) (by decide) ?_
              refine VL.q (q_move rfl) (by decide) ?_
              refine VL.split_dec 33 rfl (fun h33 => ?_) (fun h33 => ?_)
              ·
                replace hS := it_t h33 hS
                refine VL.gn rfl rfl rfl (by decide) ?_
                refine VL.gn rfl rfl rfl (by decide) ?_
                refine VL.q (q_pick_t rfl rfl) (by decide) ?_
                refine VL.mt true [0, 1, 2, 36] (fun _ _ h => h) hS rfl
              ·
                replace hS := it_f h33 hS
                refine VL.gy rfl rfl (q_move rfl) (by decide) ?_
                refine VL.gy rfl rfl (q_gtr rfl rfl) (by decide) ?_
                refine VL.q (q_pick_f rfl rfl) (by decide) ?_
                refine VL.mt (decide (260 < text_2)) [0, 1, 2, 36] (fun _ _ h => h) hS rfl
    · -- from there
      clear hS
      rintro x36_2 hS
      show VC _ _ _ _ _ [(0, i64 bytes_0), (1, i64 items_1), (2, i64 text_2), (36, .bool x36_2)] (Mo.and Mo.tt _) (Ow.emp)
      refine VC.cond rfl (fun h36 => ?_) (fun h36 => ?_)
      ·
        replace hS := it_t h36 hS
        refine VC.seq ?_
        refine VC.region ?_
        refine VL.q (q_assign rfl) (by decide) ?_
        refine VL.to (fun _ _ h => h) ?_
        cases hS
        exact VC.ret (fin1 (.inr rfl) rfl rfl () rfl trivial (fun _ _ => trivial) (fun _ _ => trivial))
      ·
        replace hS := it_b h36 hS
        refine VC.skip_to (fun _ _ h => h) ?_
        refine VC.seq ?_
        refine VC.region ?_
        refine VL.q (q_build (vs := [(0, i64 2)]) (cs := #[i64 2, .slice none 0 0, .slice none 0 0, i64 0, .slice none 0 0, i64 0, str []]) rfl (by kernel_rfl)) (by decide) ?_
        refine VL.alloc (cs := [i64 0, .slice none 0 0, .slice none 0 0, i64 0, .slice none 0 0, i64 0, str []]) (by kernel_rfl) (by decide) fun b7_4 => ?_
        refine VL.store (vc := [i64 2, .slice none 0 0, .slice none 0 0, i64 0, .slice none 0 0, i64 0, str []]) (cs' := [i64 2, .slice none 0 0, .slice none 0 0, i64 0, .slice none 0 0, i64 0, str []]) rfl rfl rfl gsz27 rfl rfl (Nat.le_of_ble_eq_true rfl) rfl ?_
        refine VL.to (fun _ _ h => h) ?_
        refine VC.seq ?_
        refine VC.seq ?_
        refine VC.region ?_
        refine VL.q (q_assign rfl) (by decide) ?_
        refine VL.to (fun _ _ h => h) ?_
        refine VC.block ?_
        refine VC.nilO (⟨none, 0, []⟩ : Sv ObjectItem) 29 ⟨rfl, rfl⟩ ?_
        refine VC.reB b7_4 (cs' := [i64 2, .slice none 0 0, (⟨none, 0, []⟩ : Sv ObjectItem).val, i64 0, .slice none 0 0, i64 0, str []]) rfl ?_
        refine VC.iter (S := Int × Sv ObjectItem) (fun sg => (sg.1, sg.2.l)) (fun sg => [(0, i64 bytes_0), (1, i64 items_1), (2, i64 text_2), (7, ptr b7_4 0), (8, i64 sg.1)]) (fun sg => Mo.tt) (fun sg => Ow.star (Blk b7_4 [i64 2, .slice none 0 0, sg.2.val, i64 0, .slice none 0 0, i64 0, str []] 27) (Ow.star (Sv.own sg.2 29) (Ow.emp))) (0, (⟨none, 0, []⟩ : Sv ObjectItem)) [0, 1, 2, 7, 8] hS rfl ?_
        clear hS
        rintro ⟨i8_5, c2_6⟩ m1 y1 hS hK1
        show VC _ _ _ _ _ [(0, i64 bytes_0), (1, i64 items_1), (2, i64 text_2), (7, ptr b7_4 0), (8, i64 i8_5)] (Mo.and Mo.tt _) (Ow.star (Blk b7_4 [i64 2, .slice none 0 0, c2_6.val, i64 0, .slice none 0 0, i64 0, str []] 27) (Ow.star (Sv.own c2_6 29) (Ow.emp)))
        refine VC.seq ?_
        refine VC.seq ?_
        refine VC.region ?_
        refine VL.q (q_move rfl) (by decide) ?_
        refine VL.q (q_move rfl) (by decide) ?_
        refine VL.q (q_lss rfl rfl) (by decide) ?_
        refine VL.to (fun _ _ h => h) ?_
        refine VC.cond_dec rfl (fun h40 => ?_) (fun h40 => ?_)
        ·
          replace hS := it_t h40 hS
          refine VC.skip_to (fun _ _ h => h) ?_
          refine VC.seq ?_
          refine VC.block ?_
          refine VC.region ?_
          refine VL.q (q_field gfa27_2 rfl) (by decide) ?_
          refine VL.q (q_fe gone24 rfl rfl) (by decide) ?_
          refine VL.q (q_move rfl) (by decide) ?_
          obtain ⟨b46, hS⟩ := gd_s hS
          refine VL.q (q_quo rfl rfl b46.1 (wi64_in b46.2)) (by decide) ?_
          obtain ⟨b47, hS⟩ := gd_s hS
          refine VL.q (q_add rfl rfl b47) (by decide) ?_
          obtain ⟨b48, hS⟩ := gd_s hS
          refine VL.q (q_conv Tryz.underlying3 Tryz.underlying5 rfl (wu8_in b48)) (by decide) ?_
          refine VL.q (q_move rfl) (by decide) ?_
          obtain ⟨b50, hS⟩ := gd_s hS
          refine VL.q (q_rem rfl rfl b50) (by decide) ?_
          obtain ⟨b51, hS⟩ := gd_s hS
          refine VL.q (q_add rfl rfl b51) (by decide) ?_
          obtain ⟨b52, hS⟩ := gd_s hS
          refine VL.q (q_conv Tryz.underlying3 Tryz.underlying5 rfl (wu8_in b52)) (by decide) ?_
          obtain ⟨b53_48, hS⟩ := gd_s hS
          obtain ⟨u53_8, eu53_8, hS⟩ := lt_s hS
          refine VL.setv 48 rfl (congrArg (Value.int .u8) (u8_z b53_48 eu53_8)) ?_
          obtain ⟨b53_52, hS⟩ := gd_s hS
          obtain ⟨u53_9, eu53_9, hS⟩ := lt_s hS
          refine VL.setv 52 rfl (congrArg (Value.int .u8) (u8_z b53_52 eu53_9)) ?_
          refine VL.lit (α := UInt8) (xs := [.tmp 48, .tmp 52]) (vs := [.int .u8 (u53_8.toNat : Int), .int .u8 (u53_9.toNat : Int)]) [u53_8, u53_9] Tryz.underlying23 glit5 (by decide) rfl rfl rfl rfl (by decide) (fun _ _ _ _ => trivial) (by decide) (fun s53_7 hs53_7 => ?_) (by decide)
          replace hS := lt_to hs53_7 hS
          refine VL.q (q_b2s (s := s53_7) Tryz.underlying23 Tryz.underlying5 Tryz.underlying9 rfl) (by decide) ?_
          obtain ⟨b55, hS⟩ := gd_s hS
          obtain ⟨y55_11, ey55_11, hS⟩ := lt_s hS
          refine VL.q (q_catE rfl rfl b55 ey55_11) (by decide) ?_
          refine VL.q (q_build (vs := [(0, str y55_11), (1, i64 1), (2, i64 1)]) (cs := #[str y55_11, i64 1, i64 1]) rfl (by kernel_rfl)) (by decide) ?_
          refine VL.lit (α := ObjectItem) (xs := [.tmp 56]) (vs := [.agg #[str y55_11, i64 1, i64 1]]) [⟨y55_11, 1, 1⟩] Tryz.underlying24 glit29 (by decide) rfl rfl rfl rfl (by decide) (fun _ _ _ _ => trivial) (by decide) (fun s57_12 hs57_12 => ?_) (by decide)
          replace hS := lt_to hs57_12 hS
          obtain ⟨b58, hS⟩ := gd_s hS
          refine VL.app (s := c2_6) (r := s57_12) Tryz.underlying24 gapp29 (by decide) rfl Fo.out (ap1 b58) (ap2 b58 (by decide)) (by decide) (fun s58_14 hs58_14 => ?_)
          replace hS := lt_to hs58_14 hS
          refine VL.q (q_field gfa27_2 rfl) (by decide) ?_
          refine VL.store (vc := [s58_14.val]) (cs' := [i64 2, .slice none 0 0, s58_14.val, i64 0, .slice none 0 0, i64 0, str []]) rfl rfl rfl gsz24 rfl rfl (Nat.le_of_ble_eq_true rfl) rfl ?_
          refine VL.to (fun _ _ h => h) ?_
          refine VC.keep [0, 1, 2, 7, 8] rfl ?_
          refine VC.region ?_
          refine VL.q (q_move rfl) (by decide) ?_
          obtain ⟨b42, hS⟩ := gd_s hS
          refine VL.q (q_add rfl rfl b42) (by decide) ?_
          refine VL.q (q_assign rfl) (by decide) ?_
          refine VL.rnd ((i8_5 + 1), s58_14) [0, 1, 2, 7, 8] (fun _ _ h => h) (go2 hS hK1) rfl
        ·
          replace hS := it_f h40 hS
          replace hS := up2 hS hK1
          refine VC.exit_to (fun _ _ h => h) ?_
          refine VC.seq ?_
          refine VC.drawG (n := 7) (listed := #[true, false, false, true, true, false, false, false, false, false]) [(0, true), (3, true), (4, true)] mixed (by kernel_rfl) (by kernel_rfl) (by kernel_rfl) (by kernel_rfl) ?_
          refine VD.q rfl (q_move rfl) (by decide) ?_
          refine VD.q rfl (q_fes gagg27 rfl rfl) (by decide) ?_
          refine VD.q rfl (q_move rfl) (by decide) ?_
          obtain ⟨b61, hS⟩ := gd_s hS
          obtain ⟨y61_16, ey61_16, hS⟩ := lt_s hS
          obtain ⟨b65, hS⟩ := gd_s hS
          obtain ⟨y65_17, ey65_17, hS⟩ := lt_s hS
          refine VD.toG fun hcl => ?_
          refine VG.fork (l := [1, 5]) (n := 6) (by kernel_rfl) rfl fun i hi => ?_
          obtain rfl | rfl : i = 1 ∨ i = 5 := by simpa using hi
          ·
            refine VGo.of rfl ?_
            refine VL.make (α := UInt8) (z := (0 : UInt8)) Tryz.underlying23 gmk5 (by decide) rfl rfl b61.1 (Int.le_refl _) (by omega) (by omega) (by decide) (fun s61_18 hs61_18 => ?_)
            obtain rfl : y61_16 = s61_18.l := ey61_16.symm.trans hs61_18.symm
            refine VL.backX (D' := [(3, .agg #[i64 2, .slice none 0 0, c2_6.val, i64 0, .slice none 0 0, i64 0, str []])]) (listed' := #[true, true, false, true, true, false, false, false, false, false]) (Pend.cons rfl (q_fes gagg27 rfl rfl) (Pend.nil)) (by kernel_rfl) (by kernel_rfl) ?_
            refine VG.ord [(2, true), (5, false), (6, true), (7, true), (8, false), (9, true)] (by kernel_rfl) (closed_of (by kernel_rfl)) (by kernel_rfl) ?_
            refine VD.q rfl (q_build (vs := [(0, i64 1), (1, s61_18.val)]) (cs := #[i64 1, s61_18.val, .slice none 0 0, i64 0, .slice none 0 0, i64 0, str []]) rfl (by kernel_rfl)) (by decide) ?_
            refine VD.one rfl ?_
            refine VL.make (α := UInt8) (z := (0 : UInt8)) Tryz.underlying23 gmk5 (by decide) rfl rfl b65.1 (Int.le_refl _) (by omega) (by omega) (by decide) (fun s65_19 hs65_19 => ?_)
            obtain rfl : y65_17 = s65_19.l := ey65_17.symm.trans hs65_19.symm
            refine VL.back (D' := [(2, .agg #[i64 1, s61_18.val, .slice none 0 0, i64 0, .slice none 0 0, i64 0, str []]), (3, .agg #[i64 2, .slice none 0 0, c2_6.val, i64 0, .slice none 0 0, i64 0, str []])]) (by kernel_rfl) (Pend.cons rfl (q_build (vs := [(0, i64 1), (1, s61_18.val)]) (cs := #[i64 1, s61_18.val, .slice none 0 0, i64 0, .slice none 0 0, i64 0, str []]) rfl (by kernel_rfl)) (Pend.cons rfl (q_fes gagg27 rfl rfl) (Pend.nil))) ?_
            refine VD.q rfl (q_b2s (s := s65_19) Tryz.underlying23 Tryz.underlying5 Tryz.underlying9 rfl) (by decide) ?_
            refine VD.q rfl (q_build (vs := [(0, i64 3), (3, i64 1), (6, str s65_19.l)]) (cs := #[i64 3, .slice none 0 0, .slice none 0 0, i64 1, .slice none 0 0, i64 0, str s65_19.l]) rfl (by kernel_rfl)) (by decide) ?_
            refine VD.one rfl ?_
            refine VL.shut s61_18 5 (fun _ _ _ _ => trivial) ?_
            refine VL.shut c2_6 29 (fun _ _ _ _ => trivial) ?_
            refine VL.lit (α := ObjectObject) (xs := [.tmp 62, .tmp 63, .tmp 67]) (vs := [.agg #[i64 1, s61_18.val, .slice none 0 0, i64 0, .slice none 0 0, i64 0, str []], .agg #[i64 2, .slice none 0 0, c2_6.val, i64 0, .slice none 0 0, i64 0, str []], .agg #[i64 3, .slice none 0 0, .slice none 0 0, i64 1, .slice none 0 0, i64 0, str s65_19.l]]) [⟨1, s61_18, ⟨none, 0, []⟩, 0, ⟨none, 0, []⟩, 0, []⟩, ⟨2, ⟨none, 0, []⟩, c2_6, 0, ⟨none, 0, []⟩, 0, []⟩, ⟨3, ⟨none, 0, []⟩, ⟨none, 0, []⟩, 1, ⟨none, 0, []⟩, 0, s65_19.l⟩] Tryz.underlying30 glit27 (by decide) rfl rfl rfl rfl (by decide) (fun h m => List.forall_mem_cons.2 ⟨InM.out (X := (s61_18.ok.and (((⟨none, 0, []⟩ : Sv ObjectItem).ok).and ((⟨none, 0, []⟩ : Sv Int).ok)))) h m, List.forall_mem_cons.2 ⟨InM.out (X := (((⟨none, 0, []⟩ : Sv UInt8).ok).and (c2_6.ok.and ((⟨none, 0, []⟩ : Sv Int).ok)))) h m, List.forall_mem_cons.2 ⟨InM.out (X := (((⟨none, 0, []⟩ : Sv UInt8).ok).and (((⟨none, 0, []⟩ : Sv ObjectItem).ok).and ((⟨none, 0, []⟩ : Sv Int).ok)))) h m, fun _ h => by cases h⟩⟩⟩) (by decide) (fun s68_20 hs68_20 => ?_) (by decide)
            replace hS := lt_to (congrArg (List.map ObjectObject.pl) hs68_20) hS
            refine VL.back (D' := []) (by kernel_rfl) (Pend.nil) ?_
            refine VD.q rfl (q_assign rfl) (by decide) ?_
            refine VD.to (fun _ _ h => h) ?_
            refine VC.keep [0, 1, 2, 9] rfl ?_
            refine VC.seq ?_
            refine VC.region ?_
            refine VL.q (q_move rfl) (by decide) ?_
            refine VL.q (q_gtr rfl rfl) (by decide) ?_
            refine VL.q (q_move rfl) (by decide) ?_
            refine VL.q (q_gtr rfl rfl) (by decide) ?_
            refine VL.q (q_move rfl) (by decide) ?_
            refine VL.q (q_gtr rfl rfl) (by decide) ?_
            refine VL.lit (α := Bool) (xs := [.tmp 70, .tmp 72, .tmp 74]) (vs := [.bool (decide (4096 < bytes_0)), .bool (decide (64 < items_1)), .bool (decide (256 < text_2))]) [(decide (4096 < bytes_0)), (decide (64 < items_1)), (decide (256 < text_2))] Tryz.underlying31 glit4 (by decide) rfl rfl rfl rfl (by decide) (fun _ _ _ _ => trivial) (by decide) (fun s75_22 hs75_22 => ?_) (by decide)
            replace hS := lt_to hs75_22 hS
            refine VL.q (q_assign rfl) (by decide) ?_
            refine VL.to (fun _ _ h => h) ?_
            refine VC.keep [9, 10] rfl ?_
            refine VC.seq ?_
            refine VC.seq ?_
            refine VC.region ?_
            refine VL.q (q_assign rfl) (by decide) ?_
            refine VL.to (fun _ _ h => h) ?_
            refine VC.block ?_
            refine VC.iter (S := Int) (fun (i11_24 : Int) => i11_24) (fun (i11_24 : Int) => [(9, s68_20.val), (10, s75_22.val), (11, i64 i11_24)]) (fun (i11_24 : Int) => Mo.tt) (fun (i11_24 : Int) => Ow.star (Blk b7_4 [i64 2, .slice none 0 0, c2_6.val, i64 0, .slice none 0 0, i64 0, str []] 27) (Ow.emp)) 0 [9, 10, 11] hS rfl ?_
            clear hS
            rintro i11_24 m1 y1 hS hK1
            show VC _ _ _ _ _ [(9, s68_20.val), (10, s75_22.val), (11, i64 i11_24)] (Mo.and Mo.tt _) (Ow.star (Blk b7_4 [i64 2, .slice none 0 0, c2_6.val, i64 0, .slice none 0 0, i64 0, str []] 27) (Ow.emp))
            refine VC.seq ?_
            refine VC.seq ?_
            refine VC.region ?_
            refine VL.q (q_move rfl) (by decide) ?_
            refine VL.q (q_lss rfl rfl) (by decide) ?_
            refine VL.to (fun _ _ h => h) ?_
            refine VC.cond_dec rfl (fun h77 => ?_) (fun h77 => ?_)
            ·
              replace hS := it_t h77 hS
              refine VC.skip_to (fun _ _ h => h) ?_
              refine VC.seq ?_
              refine VC.block ?_
              refine VC.seq ?_
              refine VC.region ?_
              refine VL.q (q_build (vs := []) (cs := #[.slice none 0 0, i64 0]) rfl (by kernel_rfl)) (by decide) ?_
              refine VL.alloc (cs := [.slice none 0 0, i64 0]) (by kernel_rfl) (by decide) fun b12_25 => ?_
              refine VL.store (vc := [.slice none 0 0, i64 0]) (cs' := [.slice none 0 0, i64 0]) rfl rfl rfl gsz34 rfl rfl (Nat.le_of_ble_eq_true rfl) rfl ?_
              refine VL.to (fun _ _ h => h) ?_
              refine VC.cutJ (S := Sv Rectoref3Part × Int) (fun sg => (sg.1.l, sg.2)) (fun sg => [(9, s68_20.val), (10, s75_22.val), (11, i64 i11_24), (12, ptr b12_25 0)]) (fun sg => sg.1.ok) (fun sg => Ow.star (Blk b12_25 [sg.1.val, i64 sg.2] 34) (Ow.star (Blk b7_4 [i64 2, .slice none 0 0, c2_6.val, i64 0, .slice none 0 0, i64 0, str []] 27) (Ow.emp))) hS ?_ ?_
              · -- up to where ways meet
                clear hS
                intro k28 hS
                refine VC.seq ?_
                refine VC.region ?_
                refine VL.q (q_move rfl) (by decide) ?_
                refine VL.q (q_move rfl) (by decide) ?_
                obtain ⟨z83_29, nz83_29, hz83_29, hS⟩ := at_s hS
                refine VL.q (q_ixm (s := s75_22) Tryz.underlying31 gsz4 rfl rfl nz83_29 (lt_of_get nz83_29 hz83_29)) (by decide) ?_
                refine VL.q (q_el (s := s75_22) gone4 rfl hz83_29 rfl) (by decide) ?_
                refine VL.to (fun _ _ h => h) ?_
                refine VC.cond rfl (fun h84 => ?_) (fun h84 => ?_)
                ·
                  replace hS := it_t h84 hS
                  refine VC.region ?_
                  refine VL.q (q_move rfl) (by decide) ?_
                  obtain ⟨b86, hS⟩ := gd_s hS
                  refine VL.q (q_add rfl rfl b86) (by decide) ?_
                  obtain ⟨y87_30, ey87_30, hS⟩ := bd_s hS
                  refine VL.callF (rectoref3_At_ct [111, 98, 106, 101, 99, 116] (i11_24 + 1) 4 ey87_30) rfl (by decide) ?_
                  rintro q87_30_0 rfl
                  try dsimp only
                  refine VL.store (vc := [q87_30_0.parts.val, i64 q87_30_0.err]) (cs' := [q87_30_0.parts.val, i64 q87_30_0.err]) rfl rfl rfl gsz34 rfl rfl (Nat.le_of_ble_eq_true rfl) rfl ?_
                  refine VL.mt (q87_30_0.parts, q87_30_0.err) [9, 10, 11, 12] (fun _ _ h => h) hS rfl
                ·
                  replace hS := it_b h84 hS
                  refine VC.reB b12_25 (cs' := [(⟨none, 0, []⟩ : Sv Rectoref3Part).val, i64 0]) rfl ?_
                  refine VC.skip_mt ((⟨none, 0, []⟩ : Sv Rectoref3Part), 0) [9, 10, 11, 12] (fun _ _ h => h) hS rfl
              · -- from there
                clear hS
                rintro ⟨c0_26, c1_27⟩ hS
                show VC _ _ _ _ _ [(9, s68_20.val), (10, s75_22.val), (11, i64 i11_24), (12, ptr b12_25 0)] (Mo.and c0_26.ok _) (Ow.star (Blk b12_25 [c0_26.val, i64 c1_27] 34) (Ow.star (Blk b7_4 [i64 2, .slice none 0 0, c2_6.val, i64 0, .slice none 0 0, i64 0, str []] 27) (Ow.emp)))
                refine VC.seq ?_
                refine VC.draw [(0, true), (1, true), (2, true), (3, true), (5, true), (4, false), (6, true), (7, true)] mixed (by kernel_rfl) (by kernel_rfl) (by kernel_rfl) ?_
                refine VD.q rfl (q_move rfl) (by decide) ?_
                refine VD.q rfl (q_move rfl) (by decide) ?_
                obtain ⟨z90_31, nz90_31, hz90_31, hS⟩ := atm_s hS
                refine VD.deep z90_31.m hz90_31 (fun _ q => q) ?_
                refine VD.q rfl (q_ixm (s := s68_20) Tryz.underlying30 gsz27 rfl rfl nz90_31 (lt_of_get nz90_31 hz90_31)) (by decide) ?_
                refine VD.q rfl (q_els (s := s68_20) gagg27 rfl rfl hz90_31) (by decide) ?_
                refine VD.q rfl (q_fes gagg34 rfl rfl) (by decide) ?_
                refine VD.one rfl ?_
                obtain ⟨y92_32, ey92_32, hS⟩ := bd_s hS
                refine VL.callF (object_Check_ct z90_31 ey92_32) rfl (by decide) ?_
                rintro q92_32_0 rfl
                try dsimp only
                refine VL.back (D' := [(5, .agg #[c0_26.val, i64 c1_27])]) (by kernel_rfl) (Pend.cons rfl (q_fes gagg34 rfl rfl) (Pend.nil)) ?_
                obtain ⟨y94_33, ey94_33, hS⟩ := bd_s hS
                refine VD.q rfl (q_call (rectolaw2_Tells_ct q92_32_0 (⟨c0_26, c1_27⟩ : Rectoref3Wrong) ey94_33) rfl (fun _ _ => rfl)) (by decide) ?_
                refine VD.q rfl (q_not rfl) (by decide) ?_
                refine VD.to (fun _ _ h => h) ?_
                refine VC.keep [9, 10, 11, 95] rfl ?_
                refine VC.cond rfl (fun h95 => ?_) (fun h95 => ?_)
                ·
                  replace hS := it_t h95 hS
                  refine VC.seq ?_
                  refine VC.region ?_
                  refine VL.q (q_assign rfl) (by decide) ?_
                  refine VL.to (fun _ _ h => h) ?_
                  replace hS := up2 hS hK1
                  cases hS
                  exact VC.ret (fin1 (.inr rfl) rfl rfl () rfl trivial (fun _ _ => trivial) (fun _ _ => trivial))
                ·
                  replace hS := it_b h95 hS
                  refine VC.skip_to (fun _ _ h => h) ?_
                  refine VC.region ?_
                  refine VL.q (q_move rfl) (by decide) ?_
                  obtain ⟨b79, hS⟩ := gd_s hS
                  refine VL.q (q_add rfl rfl b79) (by decide) ?_
                  refine VL.q (q_assign rfl) (by decide) ?_
                  refine VL.rnd (i11_24 + 1) [9, 10, 11] (fun _ _ h => h) (go2 hS hK1) rfl
            ·
              replace hS := it_f h77 hS
              replace hS := up2 hS hK1
              refine VC.exit_to (fun _ _ h => h) ?_
              refine VC.seq ?_
              refine VC.region ?_
              refine VL.q (q_assign rfl) (by decide) ?_
              refine VL.to (fun _ _ h => h) ?_
              cases hS
              exact VC.ret (fin1 (.inr rfl) rfl rfl () rfl trivial (fun _ _ => trivial) (fun _ _ => trivial))
          ·
            refine VGo.of rfl ?_
            refine VL.make (α := UInt8) (z := (0 : UInt8)) Tryz.underlying23 gmk5 (by decide) rfl rfl b65.1 (Int.le_refl _) (by omega) (by omega) (by decide) (fun s65_18 hs65_18 => ?_)
            obtain rfl : y65_17 = s65_18.l := ey65_17.symm.trans hs65_18.symm
            refine VL.backX (D' := [(3, .agg #[i64 2, .slice none 0 0, c2_6.val, i64 0, .slice none 0 0, i64 0, str []])]) (listed' := #[true, false, false, true, true, true, false, false, false, false]) (Pend.cons rfl (q_fes gagg27 rfl rfl) (Pend.nil)) (by kernel_rfl) (by kernel_rfl) ?_
            refine VG.ord [(6, true), (7, true), (1, false), (2, true), (8, false), (9, true)] (by kernel_rfl) (closed_of (by kernel_rfl)) (by kernel_rfl) ?_
            refine VD.q rfl (q_b2s (s := s65_18) Tryz.underlying23 Tryz.underlying5 Tryz.underlying9 rfl) (by decide) ?_
            refine VD.q rfl (q_build (vs := [(0, i64 3), (3, i64 1), (6, str s65_18.l)]) (cs := #[i64 3, .slice none 0 0, .slice none 0 0, i64 1, .slice none 0 0, i64 0, str s65_18.l]) rfl (by kernel_rfl)) (by decide) ?_
            refine VD.one rfl ?_
            refine VL.make (α := UInt8) (z := (0 : UInt8)) Tryz.underlying23 gmk5 (by decide) rfl rfl b61.1 (Int.le_refl _) (by omega) (by omega) (by decide) (fun s61_19 hs61_19 => ?_)
            obtain rfl : y61_16 = s61_19.l := ey61_16.symm.trans hs61_19.symm
            refine VL.back (D' := [(7, .agg #[i64 3, .slice none 0 0, .slice none 0 0, i64 1, .slice none 0 0, i64 0, str s65_18.l]), (6, str s65_18.l), (3, .agg #[i64 2, .slice none 0 0, c2_6.val, i64 0, .slice none 0 0, i64 0, str []])]) (by kernel_rfl) (Pend.cons rfl (q_build (vs := [(0, i64 3), (3, i64 1), (6, str s65_18.l)]) (cs := #[i64 3, .slice none 0 0, .slice none 0 0, i64 1, .slice none 0 0, i64 0, str s65_18.l]) rfl (by kernel_rfl)) (Pend.cons rfl (q_b2s (s := s65_18) Tryz.underlying23 Tryz.underlying5 Tryz.underlying9 rfl) (Pend.cons rfl (q_fes gagg27 rfl rfl) (Pend.nil)))) ?_
            refine VD.q rfl (q_build (vs := [(0, i64 1), (1, s61_19.val)]) (cs := #[i64 1, s61_19.val, .slice none 0 0, i64 0, .slice none 0 0, i64 0, str []]) rfl (by kernel_rfl)) (by decide) ?_
            refine VD.one rfl ?_
            refine VL.shut s61_19 5 (fun _ _ _ _ => trivial) ?_
            refine VL.shut c2_6 29 (fun _ _ _ _ => trivial) ?_
            refine VL.lit (α := ObjectObject) (xs := [.tmp 62, .tmp 63, .tmp 67]) (vs := [.agg #[i64 1, s61_19.val, .slice none 0 0, i64 0, .slice none 0 0, i64 0, str []], .agg #[i64 2, .slice none 0 0, c2_6.val, i64 0, .slice none 0 0, i64 0, str []], .agg #[i64 3, .slice none 0 0, .slice none 0 0, i64 1, .slice none 0 0, i64 0, str s65_18.l]]) [⟨1, s61_19, ⟨none, 0, []⟩, 0, ⟨none, 0, []⟩, 0, []⟩, ⟨2, ⟨none, 0, []⟩, c2_6, 0, ⟨none, 0, []⟩, 0, []⟩, ⟨3, ⟨none, 0, []⟩, ⟨none, 0, []⟩, 1, ⟨none, 0, []⟩, 0, s65_18.l⟩] Tryz.underlying30 glit27 (by decide) rfl rfl rfl rfl (by decide) (fun h m => List.forall_mem_cons.2 ⟨InM.out (X := (s61_19.ok.and (((⟨none, 0, []⟩ : Sv ObjectItem).ok).and ((⟨none, 0, []⟩ : Sv Int).ok)))) h m, List.forall_mem_cons.2 ⟨InM.out (X := (((⟨none, 0, []⟩ : Sv UInt8).ok).and (c2_6.ok.and ((⟨none, 0, []⟩ : Sv Int).ok)))) h m, List.forall_mem_cons.2 ⟨InM.out (X := (((⟨none, 0, []⟩ : Sv UInt8).ok).and (((⟨none, 0, []⟩ : Sv ObjectItem).ok).and ((⟨none, 0, []⟩ : Sv Int).ok)))) h m, fun _ h => by cases h⟩⟩⟩) (by decide) (fun s68_20 hs68_20 => ?_) (by decide)
            replace hS := lt_to (congrArg (List.map ObjectObject.pl) hs68_20) hS
            refine VL.back (D' := []) (by kernel_rfl) (Pend.nil) ?_
            refine VD.q rfl (q_assign rfl) (by decide) ?_
            refine VD.to (fun _ _ h => h) ?_
            refine VC.keep [0, 1, 2, 9] rfl ?_
            refine VC.seq ?_
            refine VC.region ?_
            refine VL.q (q_move rfl) (by decide) ?_
            refine VL.q (q_gtr rfl rfl) (by decide) ?_
            refine VL.q (q_move rfl) (by decide) ?_
            refine VL.q (q_gtr rfl rfl) (by decide) ?_
            refine VL.q (q_move rfl) (by decide) ?_
            refine VL.q (q_gtr rfl rfl) (by decide) ?_
            refine VL.lit (α := Bool) (xs := [.tmp 70, .tmp 72, .tmp 74]) (vs := [.bool (decide (4096 < bytes_0)), .bool (decide (64 < items_1)), .bool (decide (256 < text_2))]) [(decide (4096 < bytes_0)), (decide (64 < items_1)), (decide (256 < text_2))] Tryz.underlying31 glit4 (by decide) rfl rfl rfl rfl (by decide) (fun _ _ _ _ => trivial) (by decide) (fun s75_22 hs75_22 => ?_) (by decide)
            replace hS := lt_to hs75_22 hS
            refine VL.q (q_assign rfl) (by decide) ?_
            refine VL.to (fun _ _ h => h) ?_
            refine VC.keep [9, 10] rfl ?_
            refine VC.seq ?_
            refine VC.seq ?_
            refine VC.region ?_
            refine VL.q (q_assign rfl) (by decide) ?_
            refine VL.to (fun _ _ h => h) ?_
            refine VC.block ?_
            refine VC.iter (S := Int) (fun (i11_24 : Int) => i11_24) (fun (i11_24 : Int) => [(9, s68_20.val), (10, s75_22.val), (11, i64 i11_24)]) (fun (i11_24 : Int) => Mo.tt) (fun (i11_24 : Int) => Ow.star (Blk b7_4 [i64 2, .slice none 0 0, c2_6.val, i64 0, .slice none 0 0, i64 0, str []] 27) (Ow.emp)) 0 [9, 10, 11] hS rfl ?_
            clear hS
            rintro i11_24 m1 y1 hS hK1
            show VC _ _ _ _ _ [(9, s68_20.val), (10, s75_22.val), (11, i64 i11_24)] (Mo.and Mo.tt _) (Ow.star (Blk b7_4 [i64 2, .slice none 0 0, c2_6.val, i64 0, .slice none 0 0, i64 0, str []] 27) (Ow.emp))
            refine VC.seq ?_
            refine VC.seq ?_
            refine VC.region ?_
            refine VL.q (q_move rfl) (by decide) ?_
            refine VL.q (q_lss rfl rfl) (by decide) ?_
            refine VL.to (fun _ _ h => h) ?_
            refine VC.cond_dec rfl (fun h77 => ?_) (fun h77 => ?_)
            ·
              replace hS := it_t h77 hS
              refine VC.skip_to (fun _ _ h => h) ?_
              refine VC.seq ?_
              refine VC.block ?_
              refine VC.seq ?_
              refine VC.region ?_
              refine VL.q (q_build (vs := []) (cs := #[.slice none 0 0, i64 0]) rfl (by kernel_rfl)) (by decide) ?_
              refine VL.alloc (cs := [.slice none 0 0, i64 0]) (by kernel_rfl) (by decide) fun b12_25 => ?_
              refine VL.store (vc := [.slice none 0 0, i64 0]) (cs' := [.slice none 0 0, i64 0]) rfl rfl rfl gsz34 rfl rfl (Nat.le_of_ble_eq_true rfl) rfl ?_
              refine VL.to (fun _ _ h => h) ?_
              refine VC.cutJ (S := Sv Rectoref3Part × Int) (fun sg => (sg.1.l, sg.2)) (fun sg => [(9, s68_20.val), (10, s75_22.val), (11, i64 i11_24), (12, ptr b12_25 0)]) (fun sg => sg.1.ok) (fun sg => Ow.star (Blk b12_25 [sg.1.val, i64 sg.2] 34) (Ow.star (Blk b7_4 [i64 2, .slice none 0 0, c2_6.val, i64 0, .slice none 0 0, i64 0, str []] 27) (Ow.emp))) hS ?_ ?_
              · -- up to where ways meet
                clear hS
                intro k28 hS
                refine VC.seq ?_
                refine VC.region ?_
                refine VL.q (q_move rfl) (by decide) ?_
                refine VL.q (q_move rfl) (by decide) ?_
                obtain ⟨z83_29, nz83_29, hz83_29, hS⟩ := at_s hS
                refine VL.q (q_ixm (s := s75_22) Tryz.underlying31 gsz4 rfl rfl nz83_29 (lt_of_get nz83_29 hz83_29)) (by decide) ?_
                refine VL.q (q_el (s := s75_22) gone4 rfl hz83_29 rfl) (by decide) ?_
                refine VL.to (fun _ _ h => h) ?_
                refine VC.cond rfl (fun h84 => ?_) (fun h84 => ?_)
                ·
                  replace hS := it_t h84 hS
                  refine VC.region ?_
                  refine VL.q (q_move rfl) (by decide) ?_
                  obtain ⟨b86, hS⟩ := gd_s hS
                  refine VL.q (q_add rfl rfl b86) (by decide) ?_
                  obtain ⟨y87_30, ey87_30, hS⟩ := bd_s hS
                  refine VL.callF (rectoref3_At_ct [111, 98, 106, 101, 99, 116] (i11_24 + 1) 4 ey87_30) rfl (by decide) ?_
                  rintro q87_30_0 rfl
                  try dsimp only
                  refine VL.store (vc := [q87_30_0.parts.val, i64 q87_30_0.err]) (cs' := [q87_30_0.parts.val, i64 q87_30_0.err]) rfl rfl rfl gsz34 rfl rfl (Nat.le_of_ble_eq_true rfl) rfl ?_
                  refine VL.mt (q87_30_0.parts, q87_30_0.err) [9, 10, 11, 12] (fun _ _ h => h) hS rfl
                ·
                  replace hS := it_b h84 hS
                  refine VC.reB b12_25 (cs' := [(⟨none, 0, []⟩ : Sv Rectoref3Part).val, i64 0]) rfl ?_
                  refine VC.skip_mt ((⟨none, 0, []⟩ : Sv Rectoref3Part), 0) [9, 10, 11, 12] (fun _ _ h => h) hS rfl
              · -- from there
                clear hS
                rintro ⟨c0_26, c1_27⟩ hS
                show VC _ _ _ _ _ [(9, s68_20.val), (10, s75_22.val), (11, i64 i11_24), (12, ptr b12_25 0)] (Mo.and c0_26.ok _) (Ow.star (Blk b12_25 [c0_26.val, i64 c1_27] 34) (Ow.star (Blk b7_4 [i64 2, .slice none 0 0, c2_6.val, i64 0, .slice none 0 0, i64 0, str []] 27) (Ow.emp)))
                refine VC.seq ?_
                refine VC.draw [(0, true), (1, true), (2, true), (3, true), (5, true), (4, false), (6, true), (7, true)] mixed (by kernel_rfl) (by kernel_rfl) (by kernel_rfl) ?_
                refine VD.q rfl (q_move rfl) (by decide) ?_
                refine VD.q rfl (q_move rfl) (by decide) ?_
                obtain ⟨z90_31, nz90_31, hz90_31, hS⟩ := atm_s hS
                refine VD.deep z90_31.m hz90_31 (fun _ q => q) ?_
                refine VD.q rfl (q_ixm (s := s68_20) Tryz.underlying30 gsz27 rfl rfl nz90_31 (lt_of_get nz90_31 hz90_31)) (by decide) ?_
                refine VD.q rfl (q_els (s := s68_20) gagg27 rfl rfl hz90_31) (by decide) ?_
                refine VD.q rfl (q_fes gagg34 rfl rfl) (by decide) ?_
                refine VD.one rfl ?_
                obtain ⟨y92_32, ey92_32, hS⟩ := bd_s hS
                refine VL.callF (object_Check_ct z90_31 ey92_32) rfl (by decide) ?_
                rintro q92_32_0 rfl
                try dsimp only
                refine VL.back (D' := [(5, .agg #[c0_26.val, i64 c1_27])]) (by kernel_rfl) (Pend.cons rfl (q_fes gagg34 rfl rfl) (Pend.nil)) ?_
                obtain ⟨y94_33, ey94_33, hS⟩ := bd_s hS
                refine VD.q rfl (q_call (rectolaw2_Tells_ct q92_32_0 (⟨c0_26, c1_27⟩ : Rectoref3Wrong) ey94_33) rfl (fun _ _ => rfl)) (by decide) ?_
                refine VD.q rfl (q_not rfl) (by decide) ?_
                refine VD.to (fun _ _ h => h) ?_
                refine VC.keep [9, 10, 11, 95] rfl ?_
                refine VC.cond rfl (fun h95 => ?_) (fun h95 => ?_)
                ·
                  replace hS := it_t h95 hS
                  refine VC.seq ?_
                  refine VC.region ?_
                  refine VL.q (q_assign rfl) (by decide) ?_
                  refine VL.to (fun _ _ h => h) ?_
                  replace hS := up2 hS hK1
                  cases hS
                  exact VC.ret (fin1 (.inr rfl) rfl rfl () rfl trivial (fun _ _ => trivial) (fun _ _ => trivial))
                ·
                  replace hS := it_b h95 hS
                  refine VC.skip_to (fun _ _ h => h) ?_
                  refine VC.region ?_
                  refine VL.q (q_move rfl) (by decide) ?_
                  obtain ⟨b79, hS⟩ := gd_s hS
                  refine VL.q (q_add rfl rfl b79) (by decide) ?_
                  refine VL.q (q_assign rfl) (by decide) ?_
                  refine VL.rnd (i11_24 + 1) [9, 10, 11] (fun _ _ h => h) (go2 hS hK1) rfl
            ·
              replace hS := it_f h77 hS
              replace hS := up2 hS hK1
              refine VC.exit_to (fun _ _ h => h) ?_
              refine VC.seq ?_
              refine VC.region ?_
              refine VL.q (q_assign rfl) (by decide) ?_
              refine VL.to (fun _ _ h => h) ?_
              cases hS
              exact VC.ret (fin1 (.inr rfl) rfl rfl () rfl trivial (fun _ _ => trivial) (fun _ _ => trivial))

end Go.Proofs.YtipnlckfohhkbaaGreatDoor
end

section
/- Plain laws on loops that compare two rows. No program in sight. -/
namespace Go.S
theorem at_get {α : Type} {l : List α} {i : Int} (h0 : 0 ≤ i) (h : i < l.length) : ∃ z, l[i.toNat]? = some z := ⟨_, List.getElem?_eq_getElem (by omega)⟩
theorem eqloop {α : Type} [DecidableEq α] (P : α → α → Prop) [∀ z w, Decidable (P z w)] (hP : ∀ z w, P z w ↔ z = w) (l r : List α) (hl : (l.length : Int) = r.length) (hb : (l.length : Int) ≤ 1000000000) (B : Int → Option (Int ⊕ Bool))
    (hB : ∀ i, B i = if i < (l.length : Int) then (at_ l i).bind (fun z => (at_ r i).bind (fun w => if P z w then gd (I64 (i + 1)) (go (i + 1)) else up (some false))) else up (some true)) : iter B 0 = some (decide (l = r)) := by
  apply Ok.eq
  refine ok_iter (I := fun i => 0 ≤ i ∧ i ≤ l.length ∧ l.take i.toNat = r.take i.toNat) (μ := fun i => (l.length - i).toNat) ?_ ⟨by omega, by omega, rfl⟩
  rintro i ⟨h0, h1, h2⟩
  rw [hB]
  simp only [ok_if, ok_up, ok_bd, ok_gd, ok_go, ok_some, ok_at]
  refine ⟨fun h => ?_, fun h => ?_⟩
  · obtain ⟨z, hz⟩ := at_get h0 h
    obtain ⟨w, hw⟩ := at_get (l := r) h0 (by omega)
    refine ⟨h0, z, hz, h0, w, hw, fun hp => ?_, fun hp => ?_⟩
    · have e := (hP z w).1 hp
      refine ⟨⟨by omega, by omega⟩, ⟨by omega, by omega, ?_⟩, by omega⟩
      rw [show (i + 1).toNat = i.toNat + 1 by omega, List.take_add_one, List.take_add_one, h2, hz, hw, e]
    · have e : z ≠ w := fun e => hp ((hP z w).2 e)
      refine (decide_eq_false fun q => e ?_).symm
      subst q
      rw [hz] at hw
      exact Option.some.inj hw
  · have e : i.toNat = l.length := by omega
    rw [e, List.take_length] at h2
    rw [show l.length = r.length by omega, List.take_length] at h2
    exact (decide_eq_true h2).symm
end Go.S
end

section
/- Plain laws on rows. No program in sight. -/
namespace Go.S
theorem get_lt {α : Type} {l : List α} {i : Nat} {x : α} (h : l[i]? = some x) : i < l.length := (List.getElem?_eq_some_iff.1 h).1
theorem at_last {α : Type} (l : List α) (z : α) : (l ++ [z])[(((l ++ [z]).length : Int) - 1).toNat]? = some z := by
  rw [show ((((l ++ [z]).length : Int) - 1).toNat) = l.length by simp]
  simp
theorem take_last {α : Type} (l : List α) (z : α) : (l ++ [z]).take (((l ++ [z]).length : Int) - 1).toNat = l := by
  rw [show ((((l ++ [z]).length : Int) - 1).toNat) = l.length by simp]
  simp
theorem set_get_true {l : List Bool} {i j : Nat} (h : l[j]? = some true) : (l.set i true)[j]? = some true := by
  rw [List.getElem?_set]
  split
  · next e => subst e; rw [if_pos (get_lt h)]
  · exact h
theorem count_set_true {l : List Bool} {i : Nat} (h : l[i]? = some false) : (l.set i true).count false + 1 = l.count false := by
  have hi := get_lt h
  rw [List.count_set hi]
  have h1 : l[i] = false := by
    rw [List.getElem?_eq_getElem hi] at h; exact Option.some.inj h
  have h2 : 0 < l.count false := List.count_pos_iff.2 (h1 ▸ List.getElem_mem hi)
  simp [h1]; omega
theorem take_snoc {α : Type} {l : List α} {i : Int} {z : α} (h0 : 0 ≤ i) (h : l[i.toNat]? = some z) : l.take (i + 1).toNat = l.take i.toNat ++ [z] := by
  rw [show (i + 1).toNat = i.toNat + 1 by omega, List.take_add_one, h]; rfl
theorem set_self {x : List Bool} {i : Nat} (h : i < x.length) : (x.set i true)[i]? = some true := by rw [List.getElem?_set, if_pos rfl, if_pos h]
theorem filter_snoc {α : Type} (p : α → Bool) (l : List α) (z : α) : (l ++ [z]).filter p = l.filter p ++ (if p z then [z] else []) := by
  rw [List.filter_append]; cases h : p z <;> simp [h]
theorem map_at {α β : Type} {f : α → β} {l : List α} {i : Int} (h0 : 0 ≤ i) (h : i < (l.map f).length) : ∃ z, l[i.toNat]? = some z ∧ (l.map f)[i.toNat]? = some (f z) := by
  rw [List.length_map] at h
  obtain ⟨z, hz⟩ := at_get h0 h
  exact ⟨z, hz, by rw [List.getElem?_map, hz]; rfl⟩
theorem part_get {α : Type} {r l : List α} {i : Nat} (hl : r.length = l.length) {j : Nat} (h : i ≤ j) : (r.take i ++ l.drop i)[j]? = l[j]? := by
  by_cases hi : i ≤ r.length
  · rw [List.getElem?_append_right (by rw [List.length_take]; omega), List.length_take, List.getElem?_drop]
    congr 1; omega
  · rw [List.getElem?_eq_none (by simp; omega), List.getElem?_eq_none (by omega)]
theorem part_set {α : Type} {r l : List α} {i : Nat} {z : α} (hl : r.length = l.length) (h : r[i]? = some z) : (r.take i ++ l.drop i).set i z = r.take (i + 1) ++ l.drop (i + 1) := by
  have hi := get_lt h
  rw [List.take_add_one, h, List.set_append_right _ _ (by rw [List.length_take]; omega), List.length_take, show i - min i r.length = 0 by omega]
  have hd : l.drop i = l[i] :: l.drop (i + 1) := List.drop_eq_getElem_cons (by omega)
  rw [hd, List.set_cons_zero]
  simp
theorem ok_jnP {S R : Type} {K : S → Option R} {F : (S → Option R) → Option R} {Q : R → Prop} (P : S → Prop) (hK : ∀ s, P s → Ok (K s) Q) (hF : ∀ K' : S → Option R, (∀ s, P s → Ok (K' s) Q) → Ok (F K') Q) : Ok (jn K F) Q := hF K hK
theorem snoc_ind {α : Type} {P : List α → Prop} (h0 : P []) (h1 : ∀ l b, P l → P (l ++ [b])) (l : List α) : P l := by
  have h : ∀ r : List α, P r.reverse := fun r => by
    induction r with
    | nil => exact h0
    | cons x r ih => rw [List.reverse_cons]; exact h1 _ _ ih
  have := h l.reverse
  rwa [List.reverse_reverse] at this
theorem byte_eq {z : UInt8} {n : Nat} (hn : n < 256) : ((z.toNat : Int) = n) ↔ z = UInt8.ofNat n := by
  constructor
  · intro h
    apply UInt8.toNat_inj.1
    simp [Nat.mod_eq_of_lt hn]; omega
  · intro h
    subst h
    simp [Nat.mod_eq_of_lt hn]
theorem mid1 {α : Type} {s : List α} {i : Int} {z : α} (h0 : 0 ≤ i) (h : s[i.toNat]? = some z) : (s.drop i.toNat).take ((i + 1).toNat - i.toNat) = [z] := by
  obtain ⟨h1, h2⟩ := List.getElem?_eq_some_iff.1 h
  rw [show (i + 1).toNat - i.toNat = 1 by omega, List.drop_eq_getElem_cons h1, h2]
  rfl
theorem drop_cons {α : Type} {s : List α} {i : Int} {z : α} (h0 : 0 ≤ i) (h : s[i.toNat]? = some z) : s.drop i.toNat = z :: s.drop (i + 1).toNat := by
  obtain ⟨h1, h2⟩ := List.getElem?_eq_some_iff.1 h
  rw [show (i + 1).toNat = i.toNat + 1 by omega, List.drop_eq_getElem_cons h1, h2]
end Go.S
end

section
/- Plain law: ObjectLimits. No program in sight. -/
namespace Go.S
open Go
theorem known7l : Sh.rectolaw7_known = some true := by decide +kernel
def itemL (i : Nat) : ObjectItem := ⟨[102, UInt8.ofNat (97 + i / 10), UInt8.ofNat (48 + i % 10)], 1, 1⟩
def wantL (ov : Bool) (k : Int) : List Rectoref3Part × Int := if ov = true then ([⟨[111, 98, 106, 101, 99, 116], k⟩], 4) else ([], 0)
noncomputable def chkL (o : ObjectObjectP) (ov : Bool) (k : Int) : Option Bool := (Sh.object_Check o).bind fun e => Sh.rectolaw2_Tells e ⟨(wantL ov k).1, (wantL ov k).2⟩
theorem lim1 : ∀ n : Fin 11, chkL ⟨1, List.replicate (4090 + n.val) 0, [], 0, [], 0, []⟩ (decide (4096 < 4090 + n.val)) 1 = some true := by decide +kernel
theorem lim2 : ∀ n : Fin 9, chkL ⟨2, [], (List.range (60 + n.val)).map itemL, 0, [], 0, []⟩ (decide (64 < 60 + n.val)) 2 = some true := by decide +kernel
theorem lim3 : ∀ n : Fin 11, chkL ⟨3, [], [], 1, [], 0, List.replicate (250 + n.val) 0⟩ (decide (256 < 250 + n.val)) 3 = some true := by decide +kernel
theorem at_mk {k : Int} : Sh.rectoref3_At [111, 98, 106, 101, 99, 116] k 4 = some ⟨[⟨[111, 98, 106, 101, 99, 116], k⟩], 4⟩ := rfl
end Go.S
end

section
namespace Go.S
open Go
theorem take_rng (n : Nat) : (List.range (n + 1)).map itemL = (List.range n).map itemL ++ [itemL n] := by rw [List.range_succ, List.map_append]; rfl
theorem limits_ok (b i t : Int) : Sh.rectolaw7_ObjectLimits b i t = some true := by
  apply Ok.eq
  unfold Sh.rectolaw7_ObjectLimits
  rw [known7l, Option.bind_some, if_neg (by simp)]
  refine ok_jnP (fun x => x = false → (4090 ≤ b ∧ b ≤ 4100) ∧ (60 ≤ i ∧ i ≤ 68) ∧ (250 ≤ t ∧ t ≤ 260)) ?_ ?_
  · intro x hx
    simp only [ok_if, ok_some]
    refine ⟨fun _ => trivial, fun hxf => ?_⟩
    obtain ⟨⟨b0, b1⟩, ⟨i0, i1⟩, t0, t1⟩ := hx (by simpa using hxf)
    refine ok_iter (I := fun s => 0 ≤ s.1 ∧ s.1 ≤ i ∧ s.2 = (List.range s.1.toNat).map itemL) (μ := fun s => (i - s.1).toNat) ?_ ⟨by simp, by simp; omega, by simp⟩
    rintro ⟨j, c⟩ ⟨j0, j1, j2⟩
    dsimp only at j0 j1 j2 ⊢
    have hcl : c.length = j.toNat := by rw [j2, List.length_map, List.length_range]
    simp only [ok_if, ok_up]
    refine ⟨fun hj => ?_, fun hj => ?_⟩
    · have hd : 0 ≤ j / 10 ∧ j / 10 ≤ 6 := by omega
      have hm : 0 ≤ j % 10 ∧ j % 10 ≤ 9 := by omega
      simp only [ok_gd, ok_lt, ok_go]
      refine ⟨⟨⟨by omega, by decide⟩, by constructor <;> omega⟩, ⟨by omega, by omega⟩, ⟨by omega, by omega⟩, ⟨by omega, by decide⟩, ⟨by omega, by omega⟩, ⟨by omega, by omega⟩, ⟨by omega, by omega⟩, ⟨by omega, by omega⟩, by simp, by simp only [List.length_cons, List.length_nil]; omega, ⟨by omega, by omega⟩, ⟨by omega, by omega, ?_⟩, by omega⟩
      rw [show (j + 1).toNat = j.toNat + 1 by omega, take_rng, j2]
      simp only [itemL, List.singleton_append]
      rw [show (97 + j / 10).toNat = 97 + j.toNat / 10 by omega, show (48 + j % 10).toNat = 48 + j.toNat % 10 by omega]
    · obtain rfl : j = i := by omega
      simp only [ok_gd, ok_lt]
      refine ⟨⟨by omega, by omega⟩, ⟨by omega, by omega⟩, ?_⟩
      obtain ⟨n1, rfl⟩ : ∃ n : Fin 11, b = ((4090 + n.val : Nat) : Int) := ⟨⟨(b - 4090).toNat, by omega⟩, by simp; omega⟩
      obtain ⟨n2, rfl⟩ : ∃ n : Fin 9, j = ((60 + n.val : Nat) : Int) := ⟨⟨(j - 60).toNat, by omega⟩, by simp; omega⟩
      obtain ⟨n3, rfl⟩ : ∃ n : Fin 11, t = ((250 + n.val : Nat) : Int) := ⟨⟨(t - 250).toNat, by omega⟩, by simp; omega⟩
      rw [j2]
      simp only [Int.toNat_natCast]
      have h1 := lim1 n1
      have h2 := lim2 n2
      have h3 := lim3 n3
      rw [show decide (4096 < 4090 + n1.val) = decide ((4096 : Int) < ((4090 + n1.val : Nat) : Int)) from decide_eq_decide.2 (by omega)] at h1
      rw [show decide (64 < 60 + n2.val) = decide ((64 : Int) < ((60 + n2.val : Nat) : Int)) from decide_eq_decide.2 (by omega)] at h2
      rw [show decide (256 < 250 + n3.val) = decide ((256 : Int) < ((250 + n3.val : Nat) : Int)) from decide_eq_decide.2 (by omega)] at h3
      generalize decide ((4096 : Int) < ((4090 + n1.val : Nat) : Int)) = v1 at *
      generalize decide ((64 : Int) < ((60 + n2.val : Nat) : Int)) = v2 at *
      generalize decide ((256 : Int) < ((250 + n3.val : Nat) : Int)) = v3 at *
      generalize (⟨1, List.replicate (4090 + n1.val) 0, [], 0, [], 0, []⟩ : ObjectObjectP) = o1 at *
      generalize (⟨2, [], (List.range (60 + n2.val)).map itemL, 0, [], 0, []⟩ : ObjectObjectP) = o2 at *
      generalize (⟨3, [], [], 1, [], 0, List.replicate (250 + n3.val) 0⟩ : ObjectObjectP) = o3 at *
      refine ok_iter (I := fun k => 0 ≤ k ∧ k ≤ 3) (μ := fun k => (3 - k).toNat) ?_ ⟨by omega, by omega⟩
      rintro k ⟨k0, k1⟩
      try dsimp only at k0 k1 ⊢
      simp only [ok_if, ok_up, ok_some]
      refine ⟨fun hk => ?_, fun _ => trivial⟩
      obtain ⟨o, v, ho, hv, hc⟩ : ∃ o v, [o1, o2, o3][k.toNat]? = some o ∧ [v1, v2, v3][k.toNat]? = some v ∧ chkL o v (k + 1) = some true := by
        obtain rfl | rfl | rfl : k = 0 ∨ k = 1 ∨ k = 2 := by omega
        · exact ⟨o1, v1, rfl, rfl, h1⟩
        · exact ⟨o2, v2, rfl, rfl, h2⟩
        · exact ⟨o3, v3, rfl, rfl, h3⟩
      refine ok_jnP (fun u => u = wantL v (k + 1)) ?_ ?_
      · rintro ⟨u1, u2⟩ hu
        rw [ok_bd, ok_at]
        refine ⟨k0, o, ho, ?_⟩
        unfold chkL at hc
        rw [← hu] at hc
        cases he : Sh.object_Check o with
        | none => rw [he] at hc; cases hc
        | some e =>
          rw [he, Option.bind_some] at hc
          rw [Option.bind_some]
          dsimp only at hc ⊢
          rw [hc, Option.bind_some]
          simp only [ok_if, ok_up, ok_gd, ok_go]
          exact ⟨fun q => absurd q (by simp), fun _ => ⟨⟨by omega, by omega⟩, ⟨by omega, by omega⟩, by omega⟩⟩
      · intro K hK
        rw [ok_bd, ok_at]
        refine ⟨k0, v, hv, ?_⟩
        simp only [ok_if, ok_gd]
        refine ⟨fun hvt => ⟨⟨by omega, by omega⟩, ?_⟩, fun hvt => hK _ ?_⟩
        · rw [at_mk, Option.bind_some]
          exact hK _ (by rw [wantL, if_pos hvt])
        · rw [wantL, if_neg hvt]
  · intro K hK
    simp only [ok_if]
    refine ⟨fun _ => hK _ fun h => (by cases h), fun a1 => ⟨fun _ => hK _ fun h => (by cases h), fun a2 => ⟨fun _ => hK _ fun h => (by cases h), fun a3 => ⟨fun _ => hK _ fun h => (by cases h), fun a4 => ⟨fun _ => hK _ fun h => (by cases h), fun a5 => hK _ fun q => ?_⟩⟩⟩⟩⟩
    simp at q
    omega
end Go.S
end
