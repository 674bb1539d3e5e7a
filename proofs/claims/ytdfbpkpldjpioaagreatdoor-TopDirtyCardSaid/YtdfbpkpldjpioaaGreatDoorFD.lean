/- Part of the proofs of: What another branch has beyond one's own is taken as it is, and the second time there is nothing to do, for every number of commits. -/
import Derived.Test.YtdfbpkpldjpioaaGreatDoorFC
set_option linter.unusedVariables false
set_option linter.unusedSimpArgs false
set_option linter.unusedSectionVars false
section
set_option linter.unusedVariables false
namespace Go.Proofs.YtdfbpkpldjpioaaGreatDoor
set_option maxHeartbeats 4000000
set_option maxRecDepth 100000
set_option synthInstance.maxSize 2000
set_option synthInstance.maxHeartbeats 1000000
open Go.RowKit Go.V
open Go.S hiding Str
theorem codec_Dec_uint_ct (d_0_b : Nat) (d_0 : CodecDec) {r : Int × Int × CodecDecP} (hS : Sh.codec_Dec_uint d_0.pl = some r) :
 Ct Tryz.prog 242 [ptr d_0_b 0] (d_0.b.ok.and d_0.err.ok) (Blk d_0_b [d_0.b.val, i64 d_0.at_, d_0.err.val] 218) (X := Int × Int × CodecDec) (fun x => .tuple #[.int .u64 x.1, i64 x.2.1]) (fun x => r = (x.1, x.2.1, x.2.2.pl)) (fun x => (x.2.2.b.ok.and x.2.2.err.ok)) (fun x => Blk d_0_b [x.2.2.b.val, i64 x.2.2.at_, x.2.2.err.val] 218) := by
 refine Zo Tryz.func242 Tryz.ntmps242 fun c => ?_
 unfold Sh.codec_Dec_uint at hS
 refine Zq (Zr ?_)
 refine Zy ?_
 refine Zq (Zr ?_)
 refine Zy ?_
 refine Zq (Zq (Zr ?_))
 refine Zy ?_
 refine Zb ?_
 refine VC.iter (S := Int × Int) (fun sg => (sg.1, sg.2)) (fun sg => [(0, ptr d_0_b 0), (4, .int .u64 sg.1), (7, i64 sg.2)]) (fun sg => Mo.tt) (fun sg => Ow.star (Blk d_0_b [d_0.b.val, i64 d_0.at_, d_0.err.val] 218) (Ow.emp)) (0, 0) [0, 4, 7] hS rfl ?_
 clear hS
 rintro ⟨v4_1, x7_2⟩ m1 y1 hS hK1
 refine Zq (Zr ?_)
 refine Zu (q_lss rfl rfl) ?_
 refine Zl ?_
 refine Zq ?_
 refine Zc hS (fun h8 hS => ?_) (fun h8 hS => ?_)
 ·
  refine Zk ?_
  refine Zq (Zb (Zq (Zr ?_)))
  refine Zy ?_
  refine Zq (Zq ?_)
  refine VC.draw ((List.range 12).map fun k => (k, true)) mixed (by kernel_rfl) (by kernel_rfl) (by kernel_rfl) ?_
  refine Zw rfl (q_move rfl) ?_
  refine Zw rfl (q_nilCheck rfl) ?_
  refine Zw rfl (q_field gfa218_1 rfl) ?_
  refine Zw rfl (q_fe gone3 rfl rfl) ?_
  refine Zw rfl (q_move rfl) ?_
  obtain ⟨b15, hS⟩ := gd_s hS
  refine Zw rfl (q_add rfl rfl b15) ?_
  refine Zw rfl (q_move rfl) ?_
  refine Zw rfl (q_nilCheck rfl) ?_
  refine Zw rfl (q_field gfa218_0 rfl) ?_
  refine Zw rfl (q_fe gone64 rfl rfl) ?_
  refine Zw rfl (q_ln (s := d_0.b) Tryz.underlying64 rfl) ?_
  refine Zw rfl (q_geq rfl rfl) ?_
  refine VD.to (fun _ _ h => h) ?_
  refine VC.keep (ρ' := [(0, ptr d_0_b 0), (4, .int .u64 v4_1), (7, i64 x7_2), (5, i64 x7_2), (21, .bool (decide ((d_0.b.l.length : Int) ≤ (d_0.at_ + x7_2))))]) [0, 4, 7, 5, 21] rfl ?_
  refine Zc hS (fun h21 hS => ?_) (fun h21 hS => ?_)
  ·
   refine Zq ?_
   cases hS
  refine Zk ?_
  refine Zq ?_
  refine VC.draw ((List.range 13).map fun k => (k, true)) mixed (by kernel_rfl) (by kernel_rfl) (by kernel_rfl) ?_
  refine Zw rfl (q_move rfl) ?_
  refine Zw rfl (q_nilCheck rfl) ?_
  refine Zw rfl (q_field gfa218_0 rfl) ?_
  refine Zw rfl (q_fe gone64 rfl rfl) ?_
  refine Zw rfl (q_move rfl) ?_
  refine Zw rfl (q_nilCheck rfl) ?_
  refine Zw rfl (q_field gfa218_1 rfl) ?_
  refine Zw rfl (q_fe gone3 rfl rfl) ?_
  refine Zw rfl (q_move rfl) ?_
  obtain ⟨b31, hS⟩ := gd_s hS
  refine Zw rfl (q_add rfl rfl b31) ?_
  obtain ⟨z32_3, nz32_3, hz32_3, hS⟩ := at_s hS
  refine Zw rfl (q_ixm (s := d_0.b) Tryz.underlying64 gsz5 rfl rfl nz32_3 (lt_of_get nz32_3 hz32_3)) ?_
  refine Zw rfl (q_el (s := d_0.b) gone5 rfl hz32_3 rfl) ?_
  refine Zw rfl (q_assign rfl) ?_
  refine VD.to (fun _ _ h => h) ?_
  refine VC.keep (ρ' := [(0, ptr d_0_b 0), (4, .int .u64 v4_1), (7, i64 x7_2), (5, i64 x7_2), (6, .int .u8 (z32_3.toNat : Int))]) [0, 4, 7, 5, 6] rfl ?_
  refine VC.cutJ (S := Unit) (fun (_ : Unit) => ()) (fun (_ : Unit) => [(0, ptr d_0_b 0), (4, .int .u64 v4_1), (5, i64 x7_2), (6, .int .u8 (z32_3.toNat : Int)), (7, i64 x7_2)]) (fun (_ : Unit) => Mo.tt) (fun (_ : Unit) => Ow.star (Blk d_0_b [d_0.b.val, i64 d_0.at_, d_0.err.val] 218) (Ow.emp)) hS ?_ ?_
  ·
   clear hS
   intro k4 hS
   refine Zq (Zr ?_)
   refine Zm ?_
   refine Zu (q_eql rfl rfl) ?_
   refine Zm ?_
   refine Zsp 36 hS (fun h36 hS => ?_) (fun h36 hS => ?_)
   ·
    refine Zg ?_
    refine Zh (q_gtr rfl rfl) ?_
    refine Zy ?_
    refine Zsp 40 hS (fun h40 hS => ?_) (fun h40 hS => ?_)
    ·
     refine VL.skips 6 [46] (by kernel_rfl) ?_
     refine Zy ?_
     refine VC.keep (ρ' := [(0, ptr d_0_b 0), (4, .int .u64 v4_1), (7, i64 x7_2), (5, i64 x7_2), (6, .int .u8 (z32_3.toNat : Int)), (47, .bool true)]) [0, 4, 7, 5, 6, 47] rfl ?_
     refine VC.cond_t rfl ?_
     replace hS := up2 hS hK1
     refine Zx ?_
     refine Zq ?_
     cases hS
    refine Zg ?_
    refine Zh (q_gtr rfl rfl) ?_
    refine Zg ?_
    refine Zsp 43 hS (fun h43 hS => ?_) (fun h43 hS => ?_)
    ·
     refine Zg ?_
     refine Zh (q_eql rfl rfl) ?_
     refine Zh (q_pick_t rfl rfl) ?_
     refine Zy ?_
     refine VC.keep (ρ' := [(0, ptr d_0_b 0), (4, .int .u64 v4_1), (7, i64 x7_2), (5, i64 x7_2), (6, .int .u8 (z32_3.toNat : Int)), (47, .bool (decide ((z32_3.toNat : Int) = 0)))]) [0, 4, 7, 5, 6, 47] rfl ?_
     refine Zc hS (fun h47 hS => ?_) (fun h47 hS => ?_)
     ·
      replace hS := up2 hS hK1
      refine Zx ?_
      refine Zq ?_
      cases hS
     refine VC.skip_mt () [0, 4, 5, 6, 7] (fun _ _ h => h) hS rfl
    refine Zy ?_
    refine Zh (q_pick_f rfl rfl) ?_
    refine Zy ?_
    refine VC.keep (ρ' := [(0, ptr d_0_b 0), (4, .int .u64 v4_1), (7, i64 x7_2), (5, i64 x7_2), (6, .int .u8 (z32_3.toNat : Int)), (47, .bool false)]) [0, 4, 7, 5, 6, 47] rfl ?_
    refine VC.cond_f rfl ?_
    refine VC.skip_mt () [0, 4, 5, 6, 7] (fun _ _ h => h) hS rfl
   refine Zy ?_
   refine Zh (q_gtr rfl rfl) ?_
   refine Zg ?_
   refine Zsp 43 hS (fun h43 hS => ?_) (fun h43 hS => ?_)
   ·
    refine Zg ?_
    refine Zh (q_eql rfl rfl) ?_
    refine Zh (q_pick_t rfl rfl) ?_
    refine Zy ?_
    refine VC.keep (ρ' := [(0, ptr d_0_b 0), (4, .int .u64 v4_1), (7, i64 x7_2), (5, i64 x7_2), (6, .int .u8 (z32_3.toNat : Int)), (47, .bool (decide ((z32_3.toNat : Int) = 0)))]) [0, 4, 7, 5, 6, 47] rfl ?_
    refine Zc hS (fun h47 hS => ?_) (fun h47 hS => ?_)
    ·
     replace hS := up2 hS hK1
     refine Zx ?_
     refine Zq ?_
     cases hS
    refine VC.skip_mt () [0, 4, 5, 6, 7] (fun _ _ h => h) hS rfl
   refine Zy ?_
   refine Zh (q_pick_f rfl rfl) ?_
   refine Zy ?_
   refine VC.keep (ρ' := [(0, ptr d_0_b 0), (4, .int .u64 v4_1), (7, i64 x7_2), (5, i64 x7_2), (6, .int .u8 (z32_3.toNat : Int)), (47, .bool false)]) [0, 4, 7, 5, 6, 47] rfl ?_
   refine VC.cond_f rfl ?_
   refine VC.skip_mt () [0, 4, 5, 6, 7] (fun _ _ h => h) hS rfl
  clear hS
  rintro _ hS
  refine Zq (Zr ?_)
  refine Zy ?_
  refine Zu (q_and rfl rfl) ?_
  refine Zu (q_convW Tryz.underlying5 Tryz.underlying297 rfl) ?_
  refine Zm ?_
  obtain ⟨b53, hS⟩ := gd_s hS
  refine Zu (q_mul rfl rfl b53) ?_
  obtain ⟨b54, hS⟩ := gd_s hS
  refine Zu (q_shl rfl rfl b54) ?_
  refine Zu (q_or rfl rfl) ?_
  refine Zy ?_
  refine VC.keep (ρ' := [(0, ptr d_0_b 0), (4, .int .u64 (bOr .u64 v4_1 (sHl .u64 (IntKind.wrap .u64 (bAnd .u8 (z32_3.toNat : Int) 127)) (7 * x7_2)))), (5, i64 x7_2), (6, .int .u8 (z32_3.toNat : Int)), (7, i64 x7_2)]) [0, 4, 5, 6, 7] rfl ?_
  refine Zq (Zr ?_)
  refine Zm ?_
  refine Zu (q_lss rfl rfl) ?_
  refine Zl ?_
  refine Zc hS (fun h57 hS => ?_) (fun h57 hS => ?_)
  ·
   refine Zq (Zr ?_)
   refine Zm ?_
   refine Zu (q_nilCheck rfl) ?_
   refine Zu (q_field gfa218_1 rfl) ?_
   refine Zu (q_fe gone3 rfl rfl) ?_
   refine Zm ?_
   obtain ⟨b63, hS⟩ := gd_s hS
   refine Zu (q_add rfl rfl b63) ?_
   obtain ⟨b64, hS⟩ := gd_s hS
   refine Zu (q_add rfl rfl b64) ?_
   refine Zu (q_nilCheck rfl) ?_
   refine Zu (q_field gfa218_1 rfl) ?_
   refine Zv (vc := [i64 (d_0.at_ + (x7_2 + 1))]) (cs' := [d_0.b.val, i64 (d_0.at_ + (x7_2 + 1)), d_0.err.val]) rfl gsz3 ?_
   refine Zl ?_
   refine VC.keep (ρ' := [(4, .int .u64 (bOr .u64 v4_1 (sHl .u64 (IntKind.wrap .u64 (bAnd .u8 (z32_3.toNat : Int) 127)) (7 * x7_2))))]) [4] rfl ?_
   refine Zq (Zr ?_)
   refine Zy ?_
   replace hS := up2 hS hK1
   cases hS
   exact VC.ret (fin2 (.inr rfl) rfl rfl rfl ((bOr .u64 v4_1 (sHl .u64 (IntKind.wrap .u64 (bAnd .u8 (z32_3.toNat : Int) 127)) (7 * x7_2))), 0, ⟨d_0.b, (d_0.at_ + (x7_2 + 1)), d_0.err⟩) rfl rfl (by (try dsimp only); exact InM.out) (by (try dsimp only); exact EntO.out))
  refine Zk ?_
  refine Zr ?_
  obtain ⟨b68, hS⟩ := gd_s hS
  refine Zu (q_add rfl rfl b68) ?_
  refine Zm ?_
  refine VL.rnd ((bOr .u64 v4_1 (sHl .u64 (IntKind.wrap .u64 (bAnd .u8 (z32_3.toNat : Int) 127)) (7 * x7_2))), (x7_2 + 1)) [0, 4, 7] (fun _ _ h => h) (go2 hS hK1) rfl
 replace hS := up2 hS hK1
 refine Zx ?_
 refine Zq ?_
 cases hS
theorem codec_Dec_Int_ct (d_0_b : Nat) (d_0 : CodecDec) {r : Int × CodecDecP} (hS : Sh.codec_Dec_Int d_0.pl = some r) :
 Ct Tryz.prog 153 [ptr d_0_b 0] (d_0.b.ok.and d_0.err.ok) (Blk d_0_b [d_0.b.val, i64 d_0.at_, d_0.err.val] 218) (X := Int × CodecDec) (fun x => i64 x.1) (fun x => r = (x.1, x.2.pl)) (fun x => (x.2.b.ok.and x.2.err.ok)) (fun x => Blk d_0_b [x.2.b.val, i64 x.2.at_, x.2.err.val] 218) := by
 refine Zo Tryz.func153 Tryz.ntmps153 fun c => ?_
 unfold Sh.codec_Dec_Int at hS
 refine Zq (Zr ?_)
 refine Zy ?_
 refine Zq (Zq (Zr ?_))
 refine Zm ?_
 refine Zu (q_nilCheck rfl) ?_
 refine Zu (q_field gfa218_2 rfl) ?_
 refine Zu (q_fe gone45 rfl rfl) ?_
 refine Zu (q_erne Tryz.underlying45 rfl) ?_
 refine Zl ?_
 refine Zcn hS (fun h10 hS => ?_) (fun h10 hS => ?_)
 ·
  refine Zq ?_
  cases hS
 refine Zk ?_
 refine Zq (Zr ?_)
 refine Zm ?_
 refine Zu (q_nilCheck rfl) ?_
 refine Zu (q_field gfa218_1 rfl) ?_
 refine Zu (q_fe gone3 rfl rfl) ?_
 refine Zy ?_
 refine VC.keep (ρ' := [(0, ptr d_0_b 0), (3, i64 d_0.at_)]) [0, 3] rfl ?_
 refine Zq (Zr ?_)
 refine Zm ?_
 obtain ⟨y17_1, ey17_1, hS⟩ := bd_s hS
 refine VL.callO (codec_Dec_uint_ct d_0_b d_0 ey17_1) rfl (by decide) ?_
 rintro ⟨q17_1_0, q17_1_1, q17_1_2⟩ rfl
 try dsimp only
 refine Zm ?_
 refine Zu (q_extract rfl rfl) ?_
 refine Zu (q_extract rfl rfl) ?_
 refine Zy ?_
 refine Zq (Zq (Zr ?_))
 refine Zm ?_
 refine Zu (q_neq rfl rfl) ?_
 refine Zl ?_
 refine Zcn hS (fun h21 hS => ?_) (fun h21 hS => ?_)
 ·
  refine Zq ?_
  cases hS
 refine Zk ?_
 refine VC.keep (ρ' := [(4, .int .u64 q17_1_0)]) [4] rfl ?_
 refine Zq (Zr ?_)
 refine Zm ?_
 refine Zu (q_shr rfl rfl (by decide)) ?_
 refine Zu (q_convW Tryz.underlying297 Tryz.underlying2 rfl) ?_
 refine Zm ?_
 refine Zu (q_and rfl rfl) ?_
 refine Zu (q_convW Tryz.underlying297 Tryz.underlying2 rfl) ?_
 refine Zu (q_neg rfl) ?_
 refine Zu (q_xor rfl rfl) ?_
 refine Zy ?_
 cases hS
 exact VC.ret (fin1 (.inr rfl) rfl rfl ((bXor .i64 (IntKind.wrap .i64 (sHr .u64 q17_1_0 1)) (IntKind.wrap .i64 (0 - (IntKind.wrap .i64 (bAnd .u64 q17_1_0 1))))), ⟨q17_1_2.b, q17_1_2.at_, q17_1_2.err⟩) rfl rfl (by (try dsimp only); exact InM.out) (by (try dsimp only); exact EntO.out))
theorem codec_Dec_Err_ct (d_0_b : Nat) (d_0 : CodecDec) {r : Err} (hS : Sh.codec_Dec_Err d_0.pl = some r) :
 Ct Tryz.prog 159 [ptr d_0_b 0] (d_0.b.ok.and d_0.err.ok) (Blk d_0_b [d_0.b.val, i64 d_0.at_, d_0.err.val] 218) (X := Er) (fun x => x.val) (fun x => r = x.pl) (fun x => x.ok) (fun x => Blk d_0_b [d_0.b.val, i64 d_0.at_, d_0.err.val] 218) := by
 refine Zo Tryz.func159 Tryz.ntmps159 fun c => ?_
 unfold Sh.codec_Dec_Err at hS
 refine Zq (Zr ?_)
 refine Zy ?_
 refine Zq (Zr ?_)
 refine Zm ?_
 refine Zu (q_nilCheck rfl) ?_
 refine Zu (q_field gfa218_2 rfl) ?_
 refine Zu (q_fe gone45 rfl rfl) ?_
 refine Zy ?_
 cases hS
 exact VC.ret (fin1 (.inr rfl) rfl rfl d_0.err rfl rfl (by (try dsimp only); exact InM.out) (by (try dsimp only); exact EntO.out))
theorem codec_Dec_Text_ct (d_0_b : Nat) (d_0 : CodecDec) {r : Str × CodecDecP} (hS : Sh.codec_Dec_Text d_0.pl = some r) :
 Ct Tryz.prog 152 [ptr d_0_b 0] (d_0.b.ok.and d_0.err.ok) (Blk d_0_b [d_0.b.val, i64 d_0.at_, d_0.err.val] 218) (X := Str × CodecDec) (fun x => str x.1) (fun x => r = (x.1, x.2.pl)) (fun x => (x.2.b.ok.and x.2.err.ok)) (fun x => Blk d_0_b [x.2.b.val, i64 x.2.at_, x.2.err.val] 218) := by
 refine Zo Tryz.func152 Tryz.ntmps152 fun c => ?_
 unfold Sh.codec_Dec_Text at hS
 refine Zq (Zr ?_)
 refine Zy ?_
 refine Zq (Zr ?_)
 refine Zm ?_
 refine Zu (q_nilCheck rfl) ?_
 refine Zu (q_field gfa218_1 rfl) ?_
 refine Zu (q_fe gone3 rfl rfl) ?_
 refine Zy ?_
 refine Zq (Zr ?_)
 refine Zm ?_
 obtain ⟨y11_1, ey11_1, hS⟩ := bd_s hS
 refine VL.callO (codec_Dec_Int_ct d_0_b d_0 ey11_1) rfl (by decide) ?_
 rintro ⟨q11_1_0, q11_1_1⟩ rfl
 try dsimp only
 refine Zy ?_
 refine Zq (Zb (Zq (Zr ?_)))
 refine Zm ?_
 refine Zu (q_nilCheck rfl) ?_
 refine Zu (q_field gfa218_2 rfl) ?_
 refine Zu (q_fe gone45 rfl rfl) ?_
 refine Zu (q_erne Tryz.underlying45 rfl) ?_
 refine Zy ?_
 refine VC.keep (ρ' := [(0, ptr d_0_b 0), (3, i64 d_0.at_), (4, i64 q11_1_0), (12, .bool (!decide (q11_1_1.err.pl.isNil = true)))]) [0, 3, 4, 12] rfl ?_
 refine Zcn hS (fun h12 hS => ?_) (fun h12 hS => ?_)
 ·
  refine Zq ?_
  cases hS
 refine Zq (Zr ?_)
 refine Zm ?_
 refine Zu (q_lss rfl rfl) ?_
 refine Zy ?_
 refine Zc hS (fun h18 hS => ?_) (fun h18 hS => ?_)
 ·
  refine Zq ?_
  cases hS
 refine Zq ?_
 refine VC.draw ((List.range 13).map fun k => (k, true)) mixed (by kernel_rfl) (by kernel_rfl) (by kernel_rfl) ?_
 refine Zw rfl (q_move rfl) ?_
 refine Zw rfl (q_move rfl) ?_
 refine Zw rfl (q_nilCheck rfl) ?_
 refine Zw rfl (q_field gfa218_0 rfl) ?_
 refine Zw rfl (q_fe gone64 rfl rfl) ?_
 refine Zw rfl (q_ln (s := q11_1_1.b) Tryz.underlying64 rfl) ?_
 refine Zw rfl (q_move rfl) ?_
 refine Zw rfl (q_nilCheck rfl) ?_
 refine Zw rfl (q_field gfa218_1 rfl) ?_
 refine Zw rfl (q_fe gone3 rfl rfl) ?_
 obtain ⟨b35, hS⟩ := gd_s hS
 refine Zw rfl (q_sub rfl rfl b35) ?_
 refine Zw rfl (q_gtr rfl rfl) ?_
 refine Zw rfl (q_assign rfl) ?_
 refine VD.to (fun _ _ h => h) ?_
 refine VC.keep (ρ' := [(0, ptr d_0_b 0), (3, i64 d_0.at_), (4, i64 q11_1_0), (24, .bool (decide (((q11_1_1.b.l.length : Int) - q11_1_1.at_) < q11_1_0)))]) [0, 3, 4, 24] rfl ?_
 refine Zc hS (fun h24 hS => ?_) (fun h24 hS => ?_)
 ·
  refine Zq ?_
  cases hS
 refine Zk ?_
 refine Zq ?_
 refine VC.draw ((List.range 17).map fun k => (k, true)) mixed (by kernel_rfl) (by kernel_rfl) (by kernel_rfl) ?_
 refine Zw rfl (q_move rfl) ?_
 refine Zw rfl (q_nilCheck rfl) ?_
 refine Zw rfl (q_field gfa218_0 rfl) ?_
 refine Zw rfl (q_fe gone64 rfl rfl) ?_
 refine Zw rfl (q_move rfl) ?_
 refine Zw rfl (q_nilCheck rfl) ?_
 refine Zw rfl (q_field gfa218_1 rfl) ?_
 refine Zw rfl (q_fe gone3 rfl rfl) ?_
 refine Zw rfl (q_move rfl) ?_
 refine Zw rfl (q_nilCheck rfl) ?_
 refine Zw rfl (q_field gfa218_1 rfl) ?_
 refine Zw rfl (q_fe gone3 rfl rfl) ?_
 refine Zw rfl (q_move rfl) ?_
 obtain ⟨b53, hS⟩ := gd_s hS
 refine Zw rfl (q_add rfl rfl b53) ?_
 obtain ⟨b54, hS⟩ := gd_s hS
 refine VD.smidK rfl Tryz.underlying64 gsz5 rfl rfl rfl b54.1 b54.2.1 (b54.2.2) (by decide) fun s54_2 hs54_2 Qs54_2 => ?_
 replace hS := lt_to hs54_2 hS
 refine Zw rfl (q_b2s (s := s54_2) Tryz.underlying64 Tryz.underlying5 Tryz.underlying9 rfl) ?_
 refine Zw rfl (q_assign rfl) ?_
 refine VD.to (fun _ _ h => h) ?_
 refine VC.keep (ρ' := [(0, ptr d_0_b 0), (4, i64 q11_1_0), (5, str s54_2.l)]) [0, 4, 5] rfl ?_
 refine Zq (Zr ?_)
 refine Zm ?_
 refine Zu (q_nilCheck rfl) ?_
 refine Zu (q_field gfa218_1 rfl) ?_
 refine Zu (q_fe gone3 rfl rfl) ?_
 refine Zm ?_
 obtain ⟨b61, hS⟩ := gd_s hS
 refine Zu (q_add rfl rfl b61) ?_
 refine Zu (q_nilCheck rfl) ?_
 refine Zu (q_field gfa218_1 rfl) ?_
 refine Zv (vc := [i64 (q11_1_1.at_ + q11_1_0)]) (cs' := [q11_1_1.b.val, i64 (q11_1_1.at_ + q11_1_0), q11_1_1.err.val]) rfl gsz3 ?_
 refine Zl ?_
 refine VC.keep (ρ' := [(5, str s54_2.l)]) [5] rfl ?_
 refine Zq (Zr ?_)
 refine Zy ?_
 cases hS
 exact VC.ret (fin1 (.inr rfl) rfl rfl (s54_2.l, ⟨q11_1_1.b, (q11_1_1.at_ + q11_1_0), q11_1_1.err⟩) rfl rfl (by (try dsimp only); exact InM.out) (by (try dsimp only); exact EntO.out))
theorem state_reader_row_1_ct (a_0_b : Nat) (a_0 : Sv FilesFile) (a_1_b : Nat) (a_1__b : Nat) (a_1_ : StateReader) (a_1__dec_b : Nat) (a_1__dec : CodecDec) {r : List FilesFile × CodecDecP} (hS : Sh.state_reader_row_1 a_0.l a_1_ a_1__dec.pl = some r) :
 Ct Tryz.prog 239 [ptr a_0_b 0, ptr a_1_b 0] (a_1__dec.b.ok.and a_1__dec.err.ok) (Ow.star (Sv.own a_0 75) (Ow.star (Blk a_0_b [a_0.val] 24) (Ow.star (Blk a_1__dec_b [a_1__dec.b.val, i64 a_1__dec.at_, a_1__dec.err.val] 218) (Ow.star (Blk a_1__b [ptr a_1__dec_b 0, .bool a_1_.bad] 160) (Blk a_1_b [ptr a_1__b 0] 156))))) (X := Sv FilesFile × CodecDec) (fun x => .tuple #[]) (fun x => r = (x.1.l, x.2.pl)) (fun x => (x.2.b.ok.and x.2.err.ok)) (fun x => Ow.star (Blk a_0_b [x.1.val] 24) (Ow.star (Sv.own x.1 75) (Ow.star (Blk a_1__dec_b [x.2.b.val, i64 x.2.at_, x.2.err.val] 218) (Ow.star (Blk a_1__b [ptr a_1__dec_b 0, .bool a_1_.bad] 160) (Blk a_1_b [ptr a_1__b 0] 156))))) := by
 refine Zo Tryz.func239 Tryz.ntmps239 fun c => ?_
 unfold Sh.state_reader_row_1 at hS
 refine VC.draw [(0, true), (1, true), (2, true), (3, true), (4, true), (6, true), (7, true), (8, true), (9, true), (11, true), (12, true), (13, true), (14, true), (5, false), (10, false), (15, false), (16, true), (17, false), (18, false), (19, false)] mixed (by kernel_rfl) (by kernel_rfl) (by kernel_rfl) ?_
 refine Zw rfl (q_fe gone24 rfl rfl) ?_
 refine Zw rfl (q_fe gone156 rfl rfl) ?_
 refine Zw rfl (q_nilCheck rfl) ?_
 refine Zw rfl (q_field gfa160_0 rfl) ?_
 refine Zw rfl (q_fe gone157 rfl rfl) ?_
 refine Zw rfl (q_fe gone156 rfl rfl) ?_
 refine Zw rfl (q_nilCheck rfl) ?_
 refine Zw rfl (q_field gfa160_0 rfl) ?_
 refine Zw rfl (q_fe gone157 rfl rfl) ?_
 refine Zw rfl (q_fe gone156 rfl rfl) ?_
 refine Zw rfl (q_nilCheck rfl) ?_
 refine Zw rfl (q_field gfa160_0 rfl) ?_
 refine Zw rfl (q_fe gone157 rfl rfl) ?_
 refine VD.one rfl ?_
 obtain ⟨y7_1, ey7_1, hS⟩ := bd_s hS
 refine VL.callO (codec_Dec_Text_ct a_1__dec_b a_1__dec ey7_1) rfl (by decide) ?_
 rintro ⟨q7_1_0, q7_1_1⟩ rfl
 try dsimp only
 refine VL.back (D' := [(14, ptr a_1__dec_b 0), (13, ptr a_1__b 0), (12, ptr a_1__b 0), (11, ptr a_1__b 0), (9, ptr a_1__dec_b 0), (8, ptr a_1__b 0), (7, ptr a_1__b 0), (6, ptr a_1__b 0), (0, a_0.val)]) (by kernel_rfl) (Pend.cons rfl (q_fe gone157 rfl rfl) (Pend.cons rfl (q_field gfa160_0 rfl) (Pend.cons rfl (q_nilCheck rfl) (Pend.cons rfl (q_fe gone156 rfl rfl) (Pend.cons rfl (q_fe gone157 rfl rfl) (Pend.cons rfl (q_field gfa160_0 rfl) (Pend.cons rfl (q_nilCheck rfl) (Pend.cons rfl (q_fe gone156 rfl rfl) (Pend.cons rfl (q_fe gone24 rfl rfl) (Pend.nil)))))))))) ?_
 refine VD.one rfl ?_
 obtain ⟨y12_2, ey12_2, hS⟩ := bd_s hS
 refine VL.callO (codec_Dec_Int_ct a_1__dec_b q7_1_1 ey12_2) rfl (by decide) ?_
 rintro ⟨q12_2_0, q12_2_1⟩ rfl
 try dsimp only
 refine VL.back (D' := [(14, ptr a_1__dec_b 0), (13, ptr a_1__b 0), (12, ptr a_1__b 0), (11, ptr a_1__b 0), (0, a_0.val)]) (by kernel_rfl) (Pend.cons rfl (q_fe gone157 rfl rfl) (Pend.cons rfl (q_field gfa160_0 rfl) (Pend.cons rfl (q_nilCheck rfl) (Pend.cons rfl (q_fe gone156 rfl rfl) (Pend.cons rfl (q_fe gone24 rfl rfl) (Pend.nil)))))) ?_
 refine VD.one rfl ?_
 obtain ⟨y17_3, ey17_3, hS⟩ := bd_s hS
 refine VL.callO (codec_Dec_Text_ct a_1__dec_b q12_2_1 ey17_3) rfl (by decide) ?_
 rintro ⟨q17_3_0, q17_3_1⟩ rfl
 try dsimp only
 refine VL.back (D' := [(0, a_0.val)]) (by kernel_rfl) (Pend.cons rfl (q_fe gone24 rfl rfl) (Pend.nil)) ?_
 refine Zw rfl (q_build (vs := [(0, str q7_1_0), (1, i64 q12_2_0), (2, str q17_3_0)]) (cs := #[str q7_1_0, i64 q12_2_0, str q17_3_0]) rfl (by kernel_rfl)) ?_
 refine VD.one rfl ?_
 refine VL.lit (α := FilesFile) (xs := [.tmp 18]) (vs := [.agg #[str q7_1_0, i64 q12_2_0, str q17_3_0]]) [⟨q7_1_0, q12_2_0, q17_3_0⟩] Tryz.underlying24 glit75 (by decide) rfl rfl rfl rfl (by decide) (fun _ _ _ _ => trivial) (by decide) (fun s19_4 hs19_4 => ?_) (by decide)
 replace hS := lt_to hs19_4 hS
 refine VL.back (D' := [(0, a_0.val)]) (by kernel_rfl) (Pend.cons rfl (q_fe gone24 rfl rfl) (Pend.nil)) ?_
 refine VD.one rfl ?_
 obtain ⟨b20, hS⟩ := gd_s hS
 refine VL.app (s := a_0) (r := s19_4) Tryz.underlying24 gapp75 (by decide) rfl Fo.out (ap1 b20) (ap2 b20 (by decide)) (by decide) (fun s20_6 hs20_6 => ?_)
 replace hS := lt_to hs20_6 hS
 refine VL.back (D' := []) (by kernel_rfl) (Pend.nil) ?_
 refine VD.one rfl ?_
 refine Zv (vc := [s20_6.val]) (cs' := [s20_6.val]) rfl gsz24 ?_
 refine VL.back (D' := []) (by kernel_rfl) (Pend.nil) ?_
 cases hS
 exact VD.nil (fin0 (.inl rfl) rfl (s20_6, ⟨q17_3_1.b, q17_3_1.at_, q17_3_1.err⟩) rfl rfl (by (try dsimp only); exact InM.out) (by (try dsimp only); exact EntO.out))
theorem state_reader_many_ct (r_0_b : Nat) (r_0 : StateReader) (r_0_dec_b : Nat) (r_0_dec : CodecDec) (one_1_0_b : Nat) (one_1_0 : Sv FilesFile) (one_1_1_b : Nat) {r : CodecDecP × StateReader × List FilesFile} (hS : Sh.state_reader_many r_0 r_0_dec.pl one_1_0.l = some r) :
 Ct Tryz.prog 150 [ptr r_0_b 0, .func (.func 239) #[] #[ptr one_1_0_b 0, ptr one_1_1_b 0]] (r_0_dec.b.ok.and r_0_dec.err.ok) (Ow.star (Blk r_0_dec_b [r_0_dec.b.val, i64 r_0_dec.at_, r_0_dec.err.val] 218) (Ow.star (Blk r_0_b [ptr r_0_dec_b 0, .bool r_0.bad] 160) (Ow.star (Sv.own one_1_0 75) (Ow.star (Blk one_1_0_b [one_1_0.val] 24) (Blk one_1_1_b [ptr r_0_b 0] 156))))) (X := CodecDec × StateReader × Sv FilesFile) (fun x => .tuple #[]) (fun x => r = (x.1.pl, x.2.1, x.2.2.l)) (fun x => (x.1.b.ok.and x.1.err.ok)) (fun x => Ow.star (Blk r_0_dec_b [x.1.b.val, i64 x.1.at_, x.1.err.val] 218) (Ow.star (Blk r_0_b [ptr r_0_dec_b 0, .bool x.2.1.bad] 160) (Ow.star (Blk one_1_0_b [x.2.2.val] 24) (Ow.star (Sv.own x.2.2 75) (Blk one_1_1_b [ptr r_0_b 0] 156))))) := by
 refine Zo Tryz.func150 Tryz.ntmps150 fun c => ?_
 unfold Sh.state_reader_many at hS
 refine Zq (Zr ?_)
 refine Zm ?_
 refine Zu (q_nilCheck rfl) ?_
 refine Zu (q_field gfa160_0 rfl) ?_
 refine Zu (q_fe gone157 rfl rfl) ?_
 obtain ⟨y10_1, ey10_1, hS⟩ := bd_s hS
 refine VL.callO (codec_Dec_Int_ct r_0_dec_b r_0_dec ey10_1) rfl (by decide) ?_
 rintro ⟨q10_1_0, q10_1_1⟩ rfl
 try dsimp only
 refine Zy ?_
 refine VC.cutJ (S := Bool) (fun (c1_2 : Bool) => c1_2) (fun (c1_2 : Bool) => [(0, ptr r_0_b 0), (1, .func (.func 239) #[] #[ptr one_1_0_b 0, ptr one_1_1_b 0]), (4, i64 q10_1_0)]) (fun (c1_2 : Bool) => Mo.tt) (fun (c1_2 : Bool) => Ow.star (Blk r_0_dec_b [q10_1_1.b.val, i64 q10_1_1.at_, q10_1_1.err.val] 218) (Ow.star (Blk r_0_b [ptr r_0_dec_b 0, .bool c1_2] 160) (Ow.star (Blk one_1_0_b [one_1_0.val] 24) (Ow.star (Blk one_1_1_b [ptr r_0_b 0] 156) (Ow.star (Sv.own one_1_0 75) (Ow.emp)))))) hS ?_ ?_
 ·
  clear hS
  intro k3 hS
  refine Zr ?_
  refine Zy ?_
  refine Zu (q_nilCheck rfl) ?_
  refine Zu (q_field gfa160_1 rfl) ?_
  refine Zu (q_fe gone4 rfl rfl) ?_
  refine Zm ?_
  refine Zspb 16 hS (fun h16 hS => ?_) (fun h16 hS => ?_)
  ·
   refine Zy ?_
   refine Zu (q_nilCheck rfl) ?_
   refine Zu (q_field gfa160_1 rfl) ?_
   refine Zv (vc := [.bool true]) (cs' := [ptr r_0_dec_b 0, .bool true]) rfl gsz4 ?_
   refine VL.mt true [0, 1, 4] (fun _ _ h => h) hS rfl
  refine Zg ?_
  refine Zh (q_lss rfl rfl) ?_
  refine Zf ?_
  refine Zu (q_nilCheck rfl) ?_
  refine Zu (q_field gfa160_1 rfl) ?_
  refine Zv (vc := [.bool (decide (q10_1_0 < 0))]) (cs' := [ptr r_0_dec_b 0, .bool (decide (q10_1_0 < 0))]) rfl gsz4 ?_
  refine VL.mt (decide (q10_1_0 < 0)) [0, 1, 4] (fun _ _ h => h) hS rfl
 clear hS
 rintro c1_2 hS
 refine Zq (Zr ?_)
 refine Zy ?_
 refine Zb ?_
 refine VC.iter (S := Int × Sv UInt8 × Int × Er × Sv FilesFile) (fun sg => (sg.1, sg.2.1.l, sg.2.2.1, sg.2.2.2.1.pl, sg.2.2.2.2.l)) (fun sg => [(0, ptr r_0_b 0), (1, .func (.func 239) #[] #[ptr one_1_0_b 0, ptr one_1_1_b 0]), (4, i64 q10_1_0), (5, i64 sg.1)]) (fun sg => (sg.2.1.ok.and sg.2.2.2.1.ok)) (fun sg => Ow.star (Blk r_0_dec_b [sg.2.1.val, i64 sg.2.2.1, sg.2.2.2.1.val] 218) (Ow.star (Blk r_0_b [ptr r_0_dec_b 0, .bool c1_2] 160) (Ow.star (Blk one_1_0_b [sg.2.2.2.2.val] 24) (Ow.star (Blk one_1_1_b [ptr r_0_b 0] 156) (Ow.star (Sv.own sg.2.2.2.2 75) (Ow.emp)))))) (0, q10_1_1.b, q10_1_1.at_, q10_1_1.err, one_1_0) [0, 1, 4, 5] hS rfl ?_
 clear hS
 rintro ⟨i5_4, c0_5, c1_6, c2_7, c0_8⟩ m1 y1 hS hK1
 refine Zq (Zq (Zr ?_))
 refine Zy ?_
 refine Zu (q_lss rfl rfl) ?_
 refine Zm ?_
 refine Zsp 25 hS (fun h25 hS => ?_) (fun h25 hS => ?_)
 ·
  refine Zg ?_
  refine Zh (q_nilCheck rfl) ?_
  refine Zh (q_field gfa160_0 rfl) ?_
  refine Zh (q_fe gone157 rfl rfl) ?_
  refine VL.guard rfl rfl ?_
  obtain ⟨y30_9, ey30_9, hS⟩ := bd_s hS
  refine VL.callO (codec_Dec_Err_ct r_0_dec_b (⟨c0_5, c1_6, c2_7⟩ : CodecDec) ey30_9) rfl (by decide) ?_
  rintro q30_9_0 rfl
  try dsimp only
  refine Zh (q_ereq Tryz.underlying45 rfl) ?_
  refine Zy ?_
  refine VC.keep (ρ' := [(0, ptr r_0_b 0), (1, .func (.func 239) #[] #[ptr one_1_0_b 0, ptr one_1_1_b 0]), (4, i64 q10_1_0), (5, i64 i5_4), (32, .bool (decide (q30_9_0.pl.isNil = true)))]) [0, 1, 4, 5, 32] rfl ?_
  refine Zc hS (fun h32 hS => ?_) (fun h32 hS => ?_)
  ·
   refine Zk ?_
   refine Zq (Zb (Zr ?_))
   refine Zm ?_
   obtain ⟨y36_10, ey36_10, hS⟩ := bd_s hS
   refine VL.callOV (vs := []) (caps := [ptr one_1_0_b 0, ptr one_1_1_b 0]) (state_reader_row_1_ct one_1_0_b c0_8 one_1_1_b r_0_b (⟨c1_2⟩ : StateReader) r_0_dec_b (⟨c0_5, c1_6, c2_7⟩ : CodecDec) ey36_10) rfl rfl (by decide) ?_
   rintro ⟨q36_10_0, q36_10_1⟩ rfl
   try dsimp only
   refine Zl ?_
   refine Zr ?_
   refine Zm ?_
   obtain ⟨b34, hS⟩ := gd_s hS
   refine Zu (q_add rfl rfl b34) ?_
   refine Za ?_
   refine VL.rnd ((i5_4 + 1), q36_10_1.b, q36_10_1.at_, q36_10_1.err, q36_10_0) [0, 1, 4, 5] (fun _ _ h => h) (go2 hS hK1) rfl
  replace hS := up2 hS hK1
  cases hS
  exact VC.exit (fin0 (.inl rfl) rfl (⟨c0_5, c1_6, c2_7⟩, ⟨c1_2⟩, c0_8) rfl rfl (by (try dsimp only); exact InM.out) (by (try dsimp only); exact EntO.out))
 refine VL.skips 6 [31] (by kernel_rfl) ?_
 refine Zy ?_
 refine VC.cond_f rfl ?_
 replace hS := up2 hS hK1
 cases hS
 exact VC.exit (fin0 (.inl rfl) rfl (⟨c0_5, c1_6, c2_7⟩, ⟨c1_2⟩, c0_8) rfl rfl (by (try dsimp only); exact InM.out) (by (try dsimp only); exact EntO.out))
theorem state_reader_row_ct (r_0_b : Nat) (r_0 : StateReader) (r_0_dec_b : Nat) (r_0_dec : CodecDec) {r : List FilesFile × CodecDecP × StateReader} (hS : Sh.state_reader_row r_0 r_0_dec.pl = some r) :
 Ct Tryz.prog 148 [ptr r_0_b 0] (r_0_dec.b.ok.and r_0_dec.err.ok) (Ow.star (Blk r_0_dec_b [r_0_dec.b.val, i64 r_0_dec.at_, r_0_dec.err.val] 218) (Blk r_0_b [ptr r_0_dec_b 0, .bool r_0.bad] 160)) (X := Sv FilesFile × CodecDec × StateReader) (fun x => x.1.val) (fun x => r = (x.1.l, x.2.1.pl, x.2.2)) (fun x => (x.1.ok.and (x.2.1.b.ok.and x.2.1.err.ok))) (fun x => Ow.star (Blk r_0_dec_b [x.2.1.b.val, i64 x.2.1.at_, x.2.1.err.val] 218) (Blk r_0_b [ptr r_0_dec_b 0, .bool x.2.2.bad] 160)) := by
 refine Zo Tryz.func148 Tryz.ntmps148 fun c => ?_
 unfold Sh.state_reader_row at hS
 refine Zq (Zr ?_)
 refine VL.box (cs := [ptr r_0_b 0]) rfl rfl (by decide) fun b1_1 => ?_
 refine Zy ?_
 refine Zq (Zr ?_)
 refine VL.alloc (cs := [.slice none 0 0]) (by kernel_rfl) (by decide) fun b3_2 => ?_
 refine Zl ?_
 refine Zq (Zr ?_)
 refine Zu (q_fe gone156 rfl rfl) ?_
 refine Zu (q_mkfn rfl) ?_
 refine VL.nilO (⟨none, 0, []⟩ : Sv FilesFile) 75 ⟨rfl, rfl⟩ ?_
 refine VL.reB b3_2 (cs' := [(⟨none, 0, []⟩ : Sv FilesFile).val]) rfl ?_
 obtain ⟨y6_3, ey6_3, hS⟩ := bd_s hS
 refine VL.callO (state_reader_many_ct r_0_b r_0 r_0_dec_b r_0_dec b3_2 (⟨none, 0, []⟩ : Sv FilesFile) b1_1 ey6_3) rfl (by decide) ?_
 rintro ⟨q6_3_0, q6_3_1, q6_3_2⟩ rfl
 try dsimp only
 refine Zl ?_
 refine Zq (Zr ?_)
 refine Zu (q_fe gone24 rfl rfl) ?_
 refine VL.shut q6_3_2 75 (fun _ _ _ _ => trivial) ?_
 obtain ⟨y8_4, ey8_4, hS⟩ := bd_s hS
 refine VL.callF (slices_Clip_files_Row_files_File_ct q6_3_2 ey8_4) rfl (by decide) ?_
 rintro q8_4_0 rfl
 try dsimp only
 refine Zy ?_
 cases hS
 exact VC.ret (fin1 (.inr rfl) rfl rfl (q8_4_0, ⟨q6_3_0.b, q6_3_0.at_, q6_3_0.err⟩, ⟨q6_3_1.bad⟩) rfl rfl (by (try dsimp only); exact InM.out) (by (try dsimp only); exact EntO.out))
theorem state_reader_entries_1_ct (a_0_b : Nat) (a_0 : Sv IndexEntry) (a_1_b : Nat) (a_1__b : Nat) (a_1_ : StateReader) (a_1__dec_b : Nat) (a_1__dec : CodecDec) {r : List IndexEntry × CodecDecP} (hS : Sh.state_reader_entries_1 a_0.l a_1_ a_1__dec.pl = some r) :
 Ct Tryz.prog 240 [ptr a_0_b 0, ptr a_1_b 0] (a_1__dec.b.ok.and a_1__dec.err.ok) (Ow.star (Sv.own a_0 149) (Ow.star (Blk a_0_b [a_0.val] 25) (Ow.star (Blk a_1__dec_b [a_1__dec.b.val, i64 a_1__dec.at_, a_1__dec.err.val] 218) (Ow.star (Blk a_1__b [ptr a_1__dec_b 0, .bool a_1_.bad] 160) (Blk a_1_b [ptr a_1__b 0] 156))))) (X := Sv IndexEntry × CodecDec) (fun x => .tuple #[]) (fun x => r = (x.1.l, x.2.pl)) (fun x => (x.2.b.ok.and x.2.err.ok)) (fun x => Ow.star (Blk a_0_b [x.1.val] 25) (Ow.star (Sv.own x.1 149) (Ow.star (Blk a_1__dec_b [x.2.b.val, i64 x.2.at_, x.2.err.val] 218) (Ow.star (Blk a_1__b [ptr a_1__dec_b 0, .bool a_1_.bad] 160) (Blk a_1_b [ptr a_1__b 0] 156))))) := by
 refine Zo Tryz.func240 Tryz.ntmps240 fun c => ?_
 unfold Sh.state_reader_entries_1 at hS
 refine VC.draw [(0, true), (1, true), (2, true), (3, true), (4, true), (6, true), (7, true), (8, true), (9, true), (11, true), (12, true), (13, true), (14, true), (16, true), (17, true), (18, true), (19, true), (21, true), (22, true), (23, true), (24, true), (26, true), (27, true), (28, true), (29, true), (5, false), (10, false), (15, false), (20, false), (25, false), (30, false), (31, true), (32, false), (33, false), (34, false)] mixed (by kernel_rfl) (by kernel_rfl) (by kernel_rfl) ?_
 refine Zw rfl (q_fe gone25 rfl rfl) ?_
 refine Zw rfl (q_fe gone156 rfl rfl) ?_
 refine Zw rfl (q_nilCheck rfl) ?_
 refine Zw rfl (q_field gfa160_0 rfl) ?_
 refine Zw rfl (q_fe gone157 rfl rfl) ?_
 refine Zw rfl (q_fe gone156 rfl rfl) ?_
 refine Zw rfl (q_nilCheck rfl) ?_
 refine Zw rfl (q_field gfa160_0 rfl) ?_
 refine Zw rfl (q_fe gone157 rfl rfl) ?_
 refine Zw rfl (q_fe gone156 rfl rfl) ?_
 refine Zw rfl (q_nilCheck rfl) ?_
 refine Zw rfl (q_field gfa160_0 rfl) ?_
 refine Zw rfl (q_fe gone157 rfl rfl) ?_
 refine Zw rfl (q_fe gone156 rfl rfl) ?_
 refine Zw rfl (q_nilCheck rfl) ?_
 refine Zw rfl (q_field gfa160_0 rfl) ?_
 refine Zw rfl (q_fe gone157 rfl rfl) ?_
 refine Zw rfl (q_fe gone156 rfl rfl) ?_
 refine Zw rfl (q_nilCheck rfl) ?_
 refine Zw rfl (q_field gfa160_0 rfl) ?_
 refine Zw rfl (q_fe gone157 rfl rfl) ?_
 refine Zw rfl (q_fe gone156 rfl rfl) ?_
 refine Zw rfl (q_nilCheck rfl) ?_
 refine Zw rfl (q_field gfa160_0 rfl) ?_
 refine Zw rfl (q_fe gone157 rfl rfl) ?_
 refine VD.one rfl ?_
 obtain ⟨y7_1, ey7_1, hS⟩ := bd_s hS
 refine VL.callO (codec_Dec_Text_ct a_1__dec_b a_1__dec ey7_1) rfl (by decide) ?_
 rintro ⟨q7_1_0, q7_1_1⟩ rfl
 try dsimp only
 refine VL.back (D' := [(29, ptr a_1__dec_b 0), (28, ptr a_1__b 0), (27, ptr a_1__b 0), (26, ptr a_1__b 0), (24, ptr a_1__dec_b 0), (23, ptr a_1__b 0), (22, ptr a_1__b 0), (21, ptr a_1__b 0), (19, ptr a_1__dec_b 0), (18, ptr a_1__b 0), (17, ptr a_1__b 0), (16, ptr a_1__b 0), (14, ptr a_1__dec_b 0), (13, ptr a_1__b 0), (12, ptr a_1__b 0), (11, ptr a_1__b 0), (9, ptr a_1__dec_b 0), (8, ptr a_1__b 0), (7, ptr a_1__b 0), (6, ptr a_1__b 0), (0, a_0.val)]) (by kernel_rfl) (Pend.cons rfl (q_fe gone157 rfl rfl) (Pend.cons rfl (q_field gfa160_0 rfl) (Pend.cons rfl (q_nilCheck rfl) (Pend.cons rfl (q_fe gone156 rfl rfl) (Pend.cons rfl (q_fe gone157 rfl rfl) (Pend.cons rfl (q_field gfa160_0 rfl) (Pend.cons rfl (q_nilCheck rfl) (Pend.cons rfl (q_fe gone156 rfl rfl) (Pend.cons rfl (q_fe gone157 rfl rfl) (Pend.cons rfl (q_field gfa160_0 rfl) (Pend.cons rfl (q_nilCheck rfl) (Pend.cons rfl (q_fe gone156 rfl rfl) (Pend.cons rfl (q_fe gone157 rfl rfl) (Pend.cons rfl (q_field gfa160_0 rfl) (Pend.cons rfl (q_nilCheck rfl) (Pend.cons rfl (q_fe gone156 rfl rfl) (Pend.cons rfl (q_fe gone157 rfl rfl) (Pend.cons rfl (q_field gfa160_0 rfl) (Pend.cons rfl (q_nilCheck rfl) (Pend.cons rfl (q_fe gone156 rfl rfl) (Pend.cons rfl (q_fe gone25 rfl rfl) (Pend.nil)))))))))))))))))))))) ?_
 refine VD.one rfl ?_
 obtain ⟨y12_2, ey12_2, hS⟩ := bd_s hS
 refine VL.callO (codec_Dec_Int_ct a_1__dec_b q7_1_1 ey12_2) rfl (by decide) ?_
 rintro ⟨q12_2_0, q12_2_1⟩ rfl
 try dsimp only
 refine VL.back (D' := [(29, ptr a_1__dec_b 0), (28, ptr a_1__b 0), (27, ptr a_1__b 0), (26, ptr a_1__b 0), (24, ptr a_1__dec_b 0), (23, ptr a_1__b 0), (22, ptr a_1__b 0), (21, ptr a_1__b 0), (19, ptr a_1__dec_b 0), (18, ptr a_1__b 0), (17, ptr a_1__b 0), (16, ptr a_1__b 0), (14, ptr a_1__dec_b 0), (13, ptr a_1__b 0), (12, ptr a_1__b 0), (11, ptr a_1__b 0), (0, a_0.val)]) (by kernel_rfl) (Pend.cons rfl (q_fe gone157 rfl rfl) (Pend.cons rfl (q_field gfa160_0 rfl) (Pend.cons rfl (q_nilCheck rfl) (Pend.cons rfl (q_fe gone156 rfl rfl) (Pend.cons rfl (q_fe gone157 rfl rfl) (Pend.cons rfl (q_field gfa160_0 rfl) (Pend.cons rfl (q_nilCheck rfl) (Pend.cons rfl (q_fe gone156 rfl rfl) (Pend.cons rfl (q_fe gone157 rfl rfl) (Pend.cons rfl (q_field gfa160_0 rfl) (Pend.cons rfl (q_nilCheck rfl) (Pend.cons rfl (q_fe gone156 rfl rfl) (Pend.cons rfl (q_fe gone157 rfl rfl) (Pend.cons rfl (q_field gfa160_0 rfl) (Pend.cons rfl (q_nilCheck rfl) (Pend.cons rfl (q_fe gone156 rfl rfl) (Pend.cons rfl (q_fe gone25 rfl rfl) (Pend.nil)))))))))))))))))) ?_
 refine VD.one rfl ?_
 obtain ⟨y17_3, ey17_3, hS⟩ := bd_s hS
 refine VL.callO (codec_Dec_Int_ct a_1__dec_b q12_2_1 ey17_3) rfl (by decide) ?_
 rintro ⟨q17_3_0, q17_3_1⟩ rfl
 try dsimp only
 refine VL.back (D' := [(29, ptr a_1__dec_b 0), (28, ptr a_1__b 0), (27, ptr a_1__b 0), (26, ptr a_1__b 0), (24, ptr a_1__dec_b 0), (23, ptr a_1__b 0), (22, ptr a_1__b 0), (21, ptr a_1__b 0), (19, ptr a_1__dec_b 0), (18, ptr a_1__b 0), (17, ptr a_1__b 0), (16, ptr a_1__b 0), (0, a_0.val)]) (by kernel_rfl) (Pend.cons rfl (q_fe gone157 rfl rfl) (Pend.cons rfl (q_field gfa160_0 rfl) (Pend.cons rfl (q_nilCheck rfl) (Pend.cons rfl (q_fe gone156 rfl rfl) (Pend.cons rfl (q_fe gone157 rfl rfl) (Pend.cons rfl (q_field gfa160_0 rfl) (Pend.cons rfl (q_nilCheck rfl) (Pend.cons rfl (q_fe gone156 rfl rfl) (Pend.cons rfl (q_fe gone157 rfl rfl) (Pend.cons rfl (q_field gfa160_0 rfl) (Pend.cons rfl (q_nilCheck rfl) (Pend.cons rfl (q_fe gone156 rfl rfl) (Pend.cons rfl (q_fe gone25 rfl rfl) (Pend.nil)))))))))))))) ?_
 refine VD.one rfl ?_
 obtain ⟨y22_4, ey22_4, hS⟩ := bd_s hS
 refine VL.callO (codec_Dec_Text_ct a_1__dec_b q17_3_1 ey22_4) rfl (by decide) ?_
 rintro ⟨q22_4_0, q22_4_1⟩ rfl
 try dsimp only
 refine VL.back (D' := [(29, ptr a_1__dec_b 0), (28, ptr a_1__b 0), (27, ptr a_1__b 0), (26, ptr a_1__b 0), (24, ptr a_1__dec_b 0), (23, ptr a_1__b 0), (22, ptr a_1__b 0), (21, ptr a_1__b 0), (0, a_0.val)]) (by kernel_rfl) (Pend.cons rfl (q_fe gone157 rfl rfl) (Pend.cons rfl (q_field gfa160_0 rfl) (Pend.cons rfl (q_nilCheck rfl) (Pend.cons rfl (q_fe gone156 rfl rfl) (Pend.cons rfl (q_fe gone157 rfl rfl) (Pend.cons rfl (q_field gfa160_0 rfl) (Pend.cons rfl (q_nilCheck rfl) (Pend.cons rfl (q_fe gone156 rfl rfl) (Pend.cons rfl (q_fe gone25 rfl rfl) (Pend.nil)))))))))) ?_
 refine VD.one rfl ?_
 obtain ⟨y27_5, ey27_5, hS⟩ := bd_s hS
 refine VL.callO (codec_Dec_Int_ct a_1__dec_b q22_4_1 ey27_5) rfl (by decide) ?_
 rintro ⟨q27_5_0, q27_5_1⟩ rfl
 try dsimp only
 refine VL.back (D' := [(29, ptr a_1__dec_b 0), (28, ptr a_1__b 0), (27, ptr a_1__b 0), (26, ptr a_1__b 0), (0, a_0.val)]) (by kernel_rfl) (Pend.cons rfl (q_fe gone157 rfl rfl) (Pend.cons rfl (q_field gfa160_0 rfl) (Pend.cons rfl (q_nilCheck rfl) (Pend.cons rfl (q_fe gone156 rfl rfl) (Pend.cons rfl (q_fe gone25 rfl rfl) (Pend.nil)))))) ?_
 refine VD.one rfl ?_
 obtain ⟨y32_6, ey32_6, hS⟩ := bd_s hS
 refine VL.callO (codec_Dec_Int_ct a_1__dec_b q27_5_1 ey32_6) rfl (by decide) ?_
 rintro ⟨q32_6_0, q32_6_1⟩ rfl
 try dsimp only
 refine VL.back (D' := [(0, a_0.val)]) (by kernel_rfl) (Pend.cons rfl (q_fe gone25 rfl rfl) (Pend.nil)) ?_
 refine Zw rfl (q_build (vs := [(0, str q7_1_0), (1, i64 q12_2_0), (2, i64 q17_3_0), (3, str q22_4_0), (4, i64 q27_5_0), (5, i64 q32_6_0)]) (cs := #[str q7_1_0, i64 q12_2_0, i64 q17_3_0, str q22_4_0, i64 q27_5_0, i64 q32_6_0]) rfl (by kernel_rfl)) ?_
 refine VD.one rfl ?_
 refine VL.lit (α := IndexEntry) (xs := [.tmp 33]) (vs := [.agg #[str q7_1_0, i64 q12_2_0, i64 q17_3_0, str q22_4_0, i64 q27_5_0, i64 q32_6_0]]) [⟨q7_1_0, q12_2_0, q17_3_0, q22_4_0, q27_5_0, q32_6_0⟩] Tryz.underlying25 glit149 (by decide) rfl rfl rfl rfl (by decide) (fun _ _ _ _ => trivial) (by decide) (fun s34_7 hs34_7 => ?_) (by decide)
 replace hS := lt_to hs34_7 hS
 refine VL.back (D' := [(0, a_0.val)]) (by kernel_rfl) (Pend.cons rfl (q_fe gone25 rfl rfl) (Pend.nil)) ?_
 refine VD.one rfl ?_
 obtain ⟨b35, hS⟩ := gd_s hS
 refine VL.app (s := a_0) (r := s34_7) Tryz.underlying25 gapp149 (by decide) rfl Fo.out (ap1 b35) (ap2 b35 (by decide)) (by decide) (fun s35_9 hs35_9 => ?_)
 replace hS := lt_to hs35_9 hS
 refine VL.back (D' := []) (by kernel_rfl) (Pend.nil) ?_
 refine VD.one rfl ?_
 refine Zv (vc := [s35_9.val]) (cs' := [s35_9.val]) rfl gsz25 ?_
 refine VL.back (D' := []) (by kernel_rfl) (Pend.nil) ?_
 cases hS
 exact VD.nil (fin0 (.inl rfl) rfl (s35_9, ⟨q32_6_1.b, q32_6_1.at_, q32_6_1.err⟩) rfl rfl (by (try dsimp only); exact InM.out) (by (try dsimp only); exact EntO.out))
theorem state_reader_many_v2_ct (r_0_b : Nat) (r_0 : StateReader) (r_0_dec_b : Nat) (r_0_dec : CodecDec) (one_1_0_b : Nat) (one_1_0 : Sv IndexEntry) (one_1_1_b : Nat) {r : CodecDecP × StateReader × List IndexEntry} (hS : Sh.state_reader_many_v2 r_0 r_0_dec.pl one_1_0.l = some r) :
 Ct Tryz.prog 150 [ptr r_0_b 0, .func (.func 240) #[] #[ptr one_1_0_b 0, ptr one_1_1_b 0]] (r_0_dec.b.ok.and r_0_dec.err.ok) (Ow.star (Blk r_0_dec_b [r_0_dec.b.val, i64 r_0_dec.at_, r_0_dec.err.val] 218) (Ow.star (Blk r_0_b [ptr r_0_dec_b 0, .bool r_0.bad] 160) (Ow.star (Sv.own one_1_0 149) (Ow.star (Blk one_1_0_b [one_1_0.val] 25) (Blk one_1_1_b [ptr r_0_b 0] 156))))) (X := CodecDec × StateReader × Sv IndexEntry) (fun x => .tuple #[]) (fun x => r = (x.1.pl, x.2.1, x.2.2.l)) (fun x => (x.1.b.ok.and x.1.err.ok)) (fun x => Ow.star (Blk r_0_dec_b [x.1.b.val, i64 x.1.at_, x.1.err.val] 218) (Ow.star (Blk r_0_b [ptr r_0_dec_b 0, .bool x.2.1.bad] 160) (Ow.star (Blk one_1_0_b [x.2.2.val] 25) (Ow.star (Sv.own x.2.2 149) (Blk one_1_1_b [ptr r_0_b 0] 156))))) := by
 refine Zo Tryz.func150 Tryz.ntmps150 fun c => ?_
 unfold Sh.state_reader_many_v2 at hS
 refine Zq (Zr ?_)
 refine Zm ?_
 refine Zu (q_nilCheck rfl) ?_
 refine Zu (q_field gfa160_0 rfl) ?_
 refine Zu (q_fe gone157 rfl rfl) ?_
 obtain ⟨y10_1, ey10_1, hS⟩ := bd_s hS
 refine VL.callO (codec_Dec_Int_ct r_0_dec_b r_0_dec ey10_1) rfl (by decide) ?_
 rintro ⟨q10_1_0, q10_1_1⟩ rfl
 try dsimp only
 refine Zy ?_
 refine VC.cutJ (S := Bool) (fun (c1_2 : Bool) => c1_2) (fun (c1_2 : Bool) => [(0, ptr r_0_b 0), (1, .func (.func 240) #[] #[ptr one_1_0_b 0, ptr one_1_1_b 0]), (4, i64 q10_1_0)]) (fun (c1_2 : Bool) => Mo.tt) (fun (c1_2 : Bool) => Ow.star (Blk r_0_dec_b [q10_1_1.b.val, i64 q10_1_1.at_, q10_1_1.err.val] 218) (Ow.star (Blk r_0_b [ptr r_0_dec_b 0, .bool c1_2] 160) (Ow.star (Blk one_1_0_b [one_1_0.val] 25) (Ow.star (Blk one_1_1_b [ptr r_0_b 0] 156) (Ow.star (Sv.own one_1_0 149) (Ow.emp)))))) hS ?_ ?_
 ·
  clear hS
  intro k3 hS
  refine Zr ?_
  refine Zy ?_
  refine Zu (q_nilCheck rfl) ?_
  refine Zu (q_field gfa160_1 rfl) ?_
  refine Zu (q_fe gone4 rfl rfl) ?_
  refine Zm ?_
  refine Zspb 16 hS (fun h16 hS => ?_) (fun h16 hS => ?_)
  ·
   refine Zy ?_
   refine Zu (q_nilCheck rfl) ?_
   refine Zu (q_field gfa160_1 rfl) ?_
   refine Zv (vc := [.bool true]) (cs' := [ptr r_0_dec_b 0, .bool true]) rfl gsz4 ?_
   refine VL.mt true [0, 1, 4] (fun _ _ h => h) hS rfl
  refine Zg ?_
  refine Zh (q_lss rfl rfl) ?_
  refine Zf ?_
  refine Zu (q_nilCheck rfl) ?_
  refine Zu (q_field gfa160_1 rfl) ?_
  refine Zv (vc := [.bool (decide (q10_1_0 < 0))]) (cs' := [ptr r_0_dec_b 0, .bool (decide (q10_1_0 < 0))]) rfl gsz4 ?_
  refine VL.mt (decide (q10_1_0 < 0)) [0, 1, 4] (fun _ _ h => h) hS rfl
 clear hS
 rintro c1_2 hS
 refine Zq (Zr ?_)
 refine Zy ?_
 refine Zb ?_
 refine VC.iter (S := Int × Sv UInt8 × Int × Er × Sv IndexEntry) (fun sg => (sg.1, sg.2.1.l, sg.2.2.1, sg.2.2.2.1.pl, sg.2.2.2.2.l)) (fun sg => [(0, ptr r_0_b 0), (1, .func (.func 240) #[] #[ptr one_1_0_b 0, ptr one_1_1_b 0]), (4, i64 q10_1_0), (5, i64 sg.1)]) (fun sg => (sg.2.1.ok.and sg.2.2.2.1.ok)) (fun sg => Ow.star (Blk r_0_dec_b [sg.2.1.val, i64 sg.2.2.1, sg.2.2.2.1.val] 218) (Ow.star (Blk r_0_b [ptr r_0_dec_b 0, .bool c1_2] 160) (Ow.star (Blk one_1_0_b [sg.2.2.2.2.val] 25) (Ow.star (Blk one_1_1_b [ptr r_0_b 0] 156) (Ow.star (Sv.own sg.2.2.2.2 149) (Ow.emp)))))) (0, q10_1_1.b, q10_1_1.at_, q10_1_1.err, one_1_0) [0, 1, 4, 5] hS rfl ?_
 clear hS
 rintro ⟨i5_4, c0_5, c1_6, c2_7, c0_8⟩ m1 y1 hS hK1
 refine Zq (Zq (Zr ?_))
 refine Zy ?_
 refine Zu (q_lss rfl rfl) ?_
 refine Zm ?_
 refine Zsp 25 hS (fun h25 hS => ?_) (fun h25 hS => ?_)
 ·
  refine Zg ?_
  refine Zh (q_nilCheck rfl) ?_
  refine Zh (q_field gfa160_0 rfl) ?_
  refine Zh (q_fe gone157 rfl rfl) ?_
  refine VL.guard rfl rfl ?_
  obtain ⟨y30_9, ey30_9, hS⟩ := bd_s hS
  refine VL.callO (codec_Dec_Err_ct r_0_dec_b (⟨c0_5, c1_6, c2_7⟩ : CodecDec) ey30_9) rfl (by decide) ?_
  rintro q30_9_0 rfl
  try dsimp only
  refine Zh (q_ereq Tryz.underlying45 rfl) ?_
  refine Zy ?_
  refine VC.keep (ρ' := [(0, ptr r_0_b 0), (1, .func (.func 240) #[] #[ptr one_1_0_b 0, ptr one_1_1_b 0]), (4, i64 q10_1_0), (5, i64 i5_4), (32, .bool (decide (q30_9_0.pl.isNil = true)))]) [0, 1, 4, 5, 32] rfl ?_
  refine Zc hS (fun h32 hS => ?_) (fun h32 hS => ?_)
  ·
   refine Zk ?_
   refine Zq (Zb (Zr ?_))
   refine Zm ?_
   obtain ⟨y36_10, ey36_10, hS⟩ := bd_s hS
   refine VL.callOV (vs := []) (caps := [ptr one_1_0_b 0, ptr one_1_1_b 0]) (state_reader_entries_1_ct one_1_0_b c0_8 one_1_1_b r_0_b (⟨c1_2⟩ : StateReader) r_0_dec_b (⟨c0_5, c1_6, c2_7⟩ : CodecDec) ey36_10) rfl rfl (by decide) ?_
   rintro ⟨q36_10_0, q36_10_1⟩ rfl
   try dsimp only
   refine Zl ?_
   refine Zr ?_
   refine Zm ?_
   obtain ⟨b34, hS⟩ := gd_s hS
   refine Zu (q_add rfl rfl b34) ?_
   refine Za ?_
   refine VL.rnd ((i5_4 + 1), q36_10_1.b, q36_10_1.at_, q36_10_1.err, q36_10_0) [0, 1, 4, 5] (fun _ _ h => h) (go2 hS hK1) rfl
  replace hS := up2 hS hK1
  cases hS
  exact VC.exit (fin0 (.inl rfl) rfl (⟨c0_5, c1_6, c2_7⟩, ⟨c1_2⟩, c0_8) rfl rfl (by (try dsimp only); exact InM.out) (by (try dsimp only); exact EntO.out))
 refine VL.skips 6 [31] (by kernel_rfl) ?_
 refine Zy ?_
 refine VC.cond_f rfl ?_
 replace hS := up2 hS hK1
 cases hS
 exact VC.exit (fin0 (.inl rfl) rfl (⟨c0_5, c1_6, c2_7⟩, ⟨c1_2⟩, c0_8) rfl rfl (by (try dsimp only); exact InM.out) (by (try dsimp only); exact EntO.out))
theorem slices_Clip_index_Entry_index_Entry_ct (s_0 : Sv IndexEntry) {r : List IndexEntry} (hS : Sh.slices_Clip_index_Entry_index_Entry s_0.l = some r) :
 Ct Tryz.prog 197 [s_0.val] s_0.ok (Ow.emp) (X := Sv IndexEntry) (fun x => x.val) (fun x => r = x.l) (fun x => x.ok) (fun x => Ow.emp) := by
 refine Zo Tryz.func197 Tryz.ntmps197 fun c => ?_
 unfold Sh.slices_Clip_index_Entry_index_Entry at hS
 refine Zq (Zr ?_)
 refine Zy ?_
 refine Zq (Zr ?_)
 refine Zy ?_
 refine Zu (q_ln (s := s_0) Tryz.underlying25 rfl) ?_
 refine Zm ?_
 refine Zu (q_ln (s := s_0) Tryz.underlying25 rfl) ?_
 obtain ⟨b8, hS⟩ := gd_s hS
 refine VL.stom Tryz.underlying25 gsz149 rfl rfl rfl b8.1 (b8.2) (by decide) fun s8_1 hs8_1 => ?_
 replace hS := lt_to hs8_1 hS
 refine Zy ?_
 cases hS
 exact VC.ret (fin1 (.inr rfl) rfl rfl s8_1 rfl rfl (by (try dsimp only); exact InM.out) (fun _ _ => trivial))
theorem state_reader_entries_ct (r_0_b : Nat) (r_0 : StateReader) (r_0_dec_b : Nat) (r_0_dec : CodecDec) {r : List IndexEntry × CodecDecP × StateReader} (hS : Sh.state_reader_entries r_0 r_0_dec.pl = some r) :
 Ct Tryz.prog 149 [ptr r_0_b 0] (r_0_dec.b.ok.and r_0_dec.err.ok) (Ow.star (Blk r_0_dec_b [r_0_dec.b.val, i64 r_0_dec.at_, r_0_dec.err.val] 218) (Blk r_0_b [ptr r_0_dec_b 0, .bool r_0.bad] 160)) (X := Sv IndexEntry × CodecDec × StateReader) (fun x => x.1.val) (fun x => r = (x.1.l, x.2.1.pl, x.2.2)) (fun x => (x.1.ok.and (x.2.1.b.ok.and x.2.1.err.ok))) (fun x => Ow.star (Blk r_0_dec_b [x.2.1.b.val, i64 x.2.1.at_, x.2.1.err.val] 218) (Blk r_0_b [ptr r_0_dec_b 0, .bool x.2.2.bad] 160)) := by
 refine Zo Tryz.func149 Tryz.ntmps149 fun c => ?_
 unfold Sh.state_reader_entries at hS
 refine Zq (Zr ?_)
 refine VL.box (cs := [ptr r_0_b 0]) rfl rfl (by decide) fun b1_1 => ?_
 refine Zy ?_
 refine Zq (Zr ?_)
 refine VL.alloc (cs := [.slice none 0 0]) (by kernel_rfl) (by decide) fun b3_2 => ?_
 refine Zl ?_
 refine Zq (Zr ?_)
 refine Zu (q_fe gone156 rfl rfl) ?_
 refine Zu (q_mkfn rfl) ?_
 refine VL.nilO (⟨none, 0, []⟩ : Sv IndexEntry) 149 ⟨rfl, rfl⟩ ?_
 refine VL.reB b3_2 (cs' := [(⟨none, 0, []⟩ : Sv IndexEntry).val]) rfl ?_
 obtain ⟨y6_3, ey6_3, hS⟩ := bd_s hS
 refine VL.callO (state_reader_many_v2_ct r_0_b r_0 r_0_dec_b r_0_dec b3_2 (⟨none, 0, []⟩ : Sv IndexEntry) b1_1 ey6_3) rfl (by decide) ?_
 rintro ⟨q6_3_0, q6_3_1, q6_3_2⟩ rfl
 try dsimp only
 refine Zl ?_
 refine Zq (Zr ?_)
 refine Zu (q_fe gone25 rfl rfl) ?_
 refine VL.shut q6_3_2 149 (fun _ _ _ _ => trivial) ?_
 obtain ⟨y8_4, ey8_4, hS⟩ := bd_s hS
 refine VL.callF (slices_Clip_index_Entry_index_Entry_ct q6_3_2 ey8_4) rfl (by decide) ?_
 rintro q8_4_0 rfl
 try dsimp only
 refine Zy ?_
 cases hS
 exact VC.ret (fin1 (.inr rfl) rfl rfl (q8_4_0, ⟨q6_3_0.b, q6_3_0.at_, q6_3_0.err⟩, ⟨q6_3_1.bad⟩) rfl rfl (by (try dsimp only); exact InM.out) (by (try dsimp only); exact EntO.out))
theorem state_reader_now_1_ct (a_0_b : Nat) (a_0 : StateNow) (a_1_b : Nat) (a_1__b : Nat) (a_1_ : StateReader) (a_1__dec_b : Nat) (a_1__dec : CodecDec) {r : StateNowP × CodecDecP} (hS : Sh.state_reader_now_1 a_0.pl a_1_ a_1__dec.pl = some r) :
 Ct Tryz.prog 151 [ptr a_0_b 0, ptr a_1_b 0] (a_0.work.ok.and (a_0.index.ok.and (a_0.seq_doing.ok.and (a_0.seq_todo.ok.and (a_0.seq_index.ok.and (a_0.seq_work.ok.and ((MAl a_0.stash.l).and (a_1__dec.b.ok.and a_1__dec.err.ok)))))))) (Ow.star (Sv.own a_0.refs 113) (Ow.star (Sv.own a_0.stash 154) (Ow.star (Blk a_0_b (zStateNow a_0) 35) (Ow.star (Blk a_1__dec_b [a_1__dec.b.val, i64 a_1__dec.at_, a_1__dec.err.val] 218) (Ow.star (Blk a_1__b [ptr a_1__dec_b 0, .bool a_1_.bad] 160) (Blk a_1_b [ptr a_1__b 0] 156)))))) (X := StateNow × CodecDec) (fun x => .tuple #[]) (fun x => r = (x.1.pl, x.2.pl)) (fun x => (x.1.work.ok.and (x.1.index.ok.and (x.1.seq_doing.ok.and (x.1.seq_todo.ok.and (x.1.seq_index.ok.and (x.1.seq_work.ok.and ((MAl x.1.stash.l).and (x.2.b.ok.and x.2.err.ok))))))))) (fun x => Ow.star (Blk a_0_b (zStateNow x.1) 35) (Ow.star (Sv.own x.1.refs 113) (Ow.star (Sv.own x.1.stash 154) (Ow.star (Blk a_1__dec_b [x.2.b.val, i64 x.2.at_, x.2.err.val] 218) (Ow.star (Blk a_1__b [ptr a_1__dec_b 0, .bool a_1_.bad] 160) (Blk a_1_b [ptr a_1__b 0] 156)))))) := by
 refine Zo Tryz.func151 Tryz.ntmps151 fun c => ?_
 unfold Sh.state_reader_now_1 at hS
 refine VC.draw [(0, true), (1, true), (2, true), (3, true), (4, true), (5, true), (7, true), (8, true), (9, true), (10, true), (6, false), (11, false), (12, true), (13, false), (14, false), (15, true), (16, false)] mixed (by kernel_rfl) (by kernel_rfl) (by kernel_rfl) ?_
 refine Zw rfl (q_field gfa35_2 rfl) ?_
 refine Zw rfl (q_fe gone26 rfl rfl) ?_
 refine Zw rfl (q_fe gone156 rfl rfl) ?_
 refine Zw rfl (q_nilCheck rfl) ?_
 refine Zw rfl (q_field gfa160_0 rfl) ?_
 refine Zw rfl (q_fe gone157 rfl rfl) ?_
 refine Zw rfl (q_fe gone156 rfl rfl) ?_
 refine Zw rfl (q_nilCheck rfl) ?_
 refine Zw rfl (q_field gfa160_0 rfl) ?_
 refine Zw rfl (q_fe gone157 rfl rfl) ?_
 refine VD.one rfl ?_
 obtain ⟨y8_1, ey8_1, hS⟩ := bd_s hS
 refine VL.callO (codec_Dec_Text_ct a_1__dec_b a_1__dec ey8_1) rfl (by decide) ?_
 rintro ⟨q8_1_0, q8_1_1⟩ rfl
 try dsimp only
 refine VL.back (D' := [(10, ptr a_1__dec_b 0), (9, ptr a_1__b 0), (8, ptr a_1__b 0), (7, ptr a_1__b 0), (1, a_0.refs.val), (0, ptr a_0_b 2)]) (by kernel_rfl) (Pend.cons rfl (q_fe gone157 rfl rfl) (Pend.cons rfl (q_field gfa160_0 rfl) (Pend.cons rfl (q_nilCheck rfl) (Pend.cons rfl (q_fe gone156 rfl rfl) (Pend.cons rfl (q_fe gone26 rfl rfl) (Pend.cons rfl (q_field gfa35_2 rfl) (Pend.nil))))))) ?_
 refine VD.one rfl ?_
 obtain ⟨y13_2, ey13_2, hS⟩ := bd_s hS
 refine VL.callO (codec_Dec_Int_ct a_1__dec_b q8_1_1 ey13_2) rfl (by decide) ?_
 rintro ⟨q13_2_0, q13_2_1⟩ rfl
 try dsimp only
 refine VL.back (D' := [(1, a_0.refs.val), (0, ptr a_0_b 2)]) (by kernel_rfl) (Pend.cons rfl (q_fe gone26 rfl rfl) (Pend.cons rfl (q_field gfa35_2 rfl) (Pend.nil))) ?_
 refine Zw rfl (q_build (vs := [(0, str q8_1_0), (1, i64 q13_2_0)]) (cs := #[str q8_1_0, i64 q13_2_0]) rfl (by kernel_rfl)) ?_
 refine VD.one rfl ?_
 refine VL.lit (α := NamesRef) (xs := [.tmp 14]) (vs := [.agg #[str q8_1_0, i64 q13_2_0]]) [⟨q8_1_0, q13_2_0⟩] Tryz.underlying26 glit113 (by decide) rfl rfl rfl rfl (by decide) (fun _ _ _ _ => trivial) (by decide) (fun s15_3 hs15_3 => ?_) (by decide)
 replace hS := lt_to hs15_3 hS
 refine VL.back (D' := [(1, a_0.refs.val), (0, ptr a_0_b 2)]) (by kernel_rfl) (Pend.cons rfl (q_fe gone26 rfl rfl) (Pend.cons rfl (q_field gfa35_2 rfl) (Pend.nil))) ?_
 refine VD.one rfl ?_
 obtain ⟨b16, hS⟩ := gd_s hS
 refine VL.app (s := a_0.refs) (r := s15_3) Tryz.underlying26 gapp113 (by decide) rfl Fo.out (ap1 b16) (ap2 b16 (by decide)) (by decide) (fun s16_5 hs16_5 => ?_)
 replace hS := lt_to hs16_5 hS
 refine VL.back (D' := []) (by kernel_rfl) (Pend.nil) ?_
 refine Zw rfl (q_field gfa35_2 rfl) ?_
 refine VD.one rfl ?_
 refine Zv (vc := [s16_5.val]) (cs' := [a_0.work.val, a_0.index.val, s16_5.val, str a_0.head_branch, i64 a_0.head_commit, str a_0.seq_kind, i64 a_0.seq_other, str a_0.seq_text, a_0.seq_doing.val, a_0.seq_todo.val, i64 a_0.seq_made, str a_0.seq_branch, str a_0.seq_head_branch, i64 a_0.seq_head_commit, a_0.seq_index.val, a_0.seq_work.val, a_0.stash.val]) rfl gsz26 ?_
 refine VL.back (D' := []) (by kernel_rfl) (Pend.nil) ?_
 cases hS
 exact VD.nil (fin0 (.inl rfl) rfl (⟨a_0.work, a_0.index, s16_5, a_0.head_branch, a_0.head_commit, a_0.seq_kind, a_0.seq_other, a_0.seq_text, a_0.seq_doing, a_0.seq_todo, a_0.seq_made, a_0.seq_branch, a_0.seq_head_branch, a_0.seq_head_commit, a_0.seq_index, a_0.seq_work, a_0.stash⟩, ⟨q13_2_1.b, q13_2_1.at_, q13_2_1.err⟩) rfl rfl (by (try dsimp only); exact InM.out) (by (try dsimp only); exact EntO.out))
theorem state_reader_many_v3_ct (r_0_b : Nat) (r_0 : StateReader) (r_0_dec_b : Nat) (r_0_dec : CodecDec) (one_1_0_b : Nat) (one_1_0 : StateNow) (one_1_1_b : Nat) {r : CodecDecP × StateReader × StateNowP} (hS : Sh.state_reader_many_v3 r_0 r_0_dec.pl one_1_0.pl = some r) :
 Ct Tryz.prog 150 [ptr r_0_b 0, .func (.func 151) #[] #[ptr one_1_0_b 0, ptr one_1_1_b 0]] (r_0_dec.b.ok.and (r_0_dec.err.ok.and (one_1_0.work.ok.and (one_1_0.index.ok.and (one_1_0.seq_doing.ok.and (one_1_0.seq_todo.ok.and (one_1_0.seq_index.ok.and (one_1_0.seq_work.ok.and (MAl one_1_0.stash.l))))))))) (Ow.star (Blk r_0_dec_b [r_0_dec.b.val, i64 r_0_dec.at_, r_0_dec.err.val] 218) (Ow.star (Blk r_0_b [ptr r_0_dec_b 0, .bool r_0.bad] 160) (Ow.star (Sv.own one_1_0.refs 113) (Ow.star (Sv.own one_1_0.stash 154) (Ow.star (Blk one_1_0_b (zStateNow one_1_0) 35) (Blk one_1_1_b [ptr r_0_b 0] 156)))))) (X := CodecDec × StateReader × StateNow) (fun x => .tuple #[]) (fun x => r = (x.1.pl, x.2.1, x.2.2.pl)) (fun x => (x.1.b.ok.and (x.1.err.ok.and (x.2.2.work.ok.and (x.2.2.index.ok.and (x.2.2.seq_doing.ok.and (x.2.2.seq_todo.ok.and (x.2.2.seq_index.ok.and (x.2.2.seq_work.ok.and (MAl x.2.2.stash.l)))))))))) (fun x => Ow.star (Blk r_0_dec_b [x.1.b.val, i64 x.1.at_, x.1.err.val] 218) (Ow.star (Blk r_0_b [ptr r_0_dec_b 0, .bool x.2.1.bad] 160) (Ow.star (Blk one_1_0_b (zStateNow x.2.2) 35) (Ow.star (Sv.own x.2.2.refs 113) (Ow.star (Sv.own x.2.2.stash 154) (Blk one_1_1_b [ptr r_0_b 0] 156)))))) := by
 refine Zo Tryz.func150 Tryz.ntmps150 fun c => ?_
 unfold Sh.state_reader_many_v3 at hS
 refine Zq (Zr ?_)
 refine Zm ?_
 refine Zu (q_nilCheck rfl) ?_
 refine Zu (q_field gfa160_0 rfl) ?_
 refine Zu (q_fe gone157 rfl rfl) ?_
 obtain ⟨y10_1, ey10_1, hS⟩ := bd_s hS
 refine VL.callO (codec_Dec_Int_ct r_0_dec_b r_0_dec ey10_1) rfl (by decide) ?_
 rintro ⟨q10_1_0, q10_1_1⟩ rfl
 try dsimp only
 refine Zy ?_
 refine VC.cutJ (S := Bool) (fun (c1_2 : Bool) => c1_2) (fun (c1_2 : Bool) => [(0, ptr r_0_b 0), (1, .func (.func 151) #[] #[ptr one_1_0_b 0, ptr one_1_1_b 0]), (4, i64 q10_1_0)]) (fun (c1_2 : Bool) => Mo.tt) (fun (c1_2 : Bool) => Ow.star (Blk r_0_dec_b [q10_1_1.b.val, i64 q10_1_1.at_, q10_1_1.err.val] 218) (Ow.star (Blk r_0_b [ptr r_0_dec_b 0, .bool c1_2] 160) (Ow.star (Blk one_1_0_b (zStateNow one_1_0) 35) (Ow.star (Blk one_1_1_b [ptr r_0_b 0] 156) (Ow.star (Sv.own one_1_0.refs 113) (Ow.star (Sv.own one_1_0.stash 154) (Ow.emp))))))) hS ?_ ?_
 ·
  clear hS
  intro k3 hS
  refine Zr ?_
  refine Zy ?_
  refine Zu (q_nilCheck rfl) ?_
  refine Zu (q_field gfa160_1 rfl) ?_
  refine Zu (q_fe gone4 rfl rfl) ?_
  refine Zm ?_
  refine Zspb 16 hS (fun h16 hS => ?_) (fun h16 hS => ?_)
  ·
   refine Zy ?_
   refine Zu (q_nilCheck rfl) ?_
   refine Zu (q_field gfa160_1 rfl) ?_
   refine Zv (vc := [.bool true]) (cs' := [ptr r_0_dec_b 0, .bool true]) rfl gsz4 ?_
   refine VL.mt true [0, 1, 4] (fun _ _ h => h) hS rfl
  refine Zg ?_
  refine Zh (q_lss rfl rfl) ?_
  refine Zf ?_
  refine Zu (q_nilCheck rfl) ?_
  refine Zu (q_field gfa160_1 rfl) ?_
  refine Zv (vc := [.bool (decide (q10_1_0 < 0))]) (cs' := [ptr r_0_dec_b 0, .bool (decide (q10_1_0 < 0))]) rfl gsz4 ?_
  refine VL.mt (decide (q10_1_0 < 0)) [0, 1, 4] (fun _ _ h => h) hS rfl
 clear hS
 rintro c1_2 hS
 refine Zq (Zr ?_)
 refine Zy ?_
 refine Zb ?_
 refine VC.iter (S := Int × Sv UInt8 × Int × Er × Sv FilesFile × Sv IndexEntry × Sv NamesRef × Str × Int × Str × Int × Str × Sv TodoStep × Sv TodoStep × Int × Str × Str × Int × Sv IndexEntry × Sv FilesFile × Sv ShelfShelf) (fun sg => (sg.1, sg.2.1.l, sg.2.2.1, sg.2.2.2.1.pl, sg.2.2.2.2.1.l, sg.2.2.2.2.2.1.l, sg.2.2.2.2.2.2.1.l, sg.2.2.2.2.2.2.2.1, sg.2.2.2.2.2.2.2.2.1, sg.2.2.2.2.2.2.2.2.2.1, sg.2.2.2.2.2.2.2.2.2.2.1, sg.2.2.2.2.2.2.2.2.2.2.2.1, sg.2.2.2.2.2.2.2.2.2.2.2.2.1.l, sg.2.2.2.2.2.2.2.2.2.2.2.2.2.1.l, sg.2.2.2.2.2.2.2.2.2.2.2.2.2.2.1, sg.2.2.2.2.2.2.2.2.2.2.2.2.2.2.2.1, sg.2.2.2.2.2.2.2.2.2.2.2.2.2.2.2.2.1, sg.2.2.2.2.2.2.2.2.2.2.2.2.2.2.2.2.2.1, sg.2.2.2.2.2.2.2.2.2.2.2.2.2.2.2.2.2.2.1.l, sg.2.2.2.2.2.2.2.2.2.2.2.2.2.2.2.2.2.2.2.1.l, (sg.2.2.2.2.2.2.2.2.2.2.2.2.2.2.2.2.2.2.2.2.l.map ShelfShelf.pl))) (fun sg => [(0, ptr r_0_b 0), (1, .func (.func 151) #[] #[ptr one_1_0_b 0, ptr one_1_1_b 0]), (4, i64 q10_1_0), (5, i64 sg.1)]) (fun sg => (sg.2.1.ok.and (sg.2.2.2.1.ok.and (sg.2.2.2.2.1.ok.and (sg.2.2.2.2.2.1.ok.and (sg.2.2.2.2.2.2.2.2.2.2.2.2.1.ok.and (sg.2.2.2.2.2.2.2.2.2.2.2.2.2.1.ok.and (sg.2.2.2.2.2.2.2.2.2.2.2.2.2.2.2.2.2.2.1.ok.and (sg.2.2.2.2.2.2.2.2.2.2.2.2.2.2.2.2.2.2.2.1.ok.and (MAl sg.2.2.2.2.2.2.2.2.2.2.2.2.2.2.2.2.2.2.2.2.l)))))))))) (fun sg => Ow.star (Blk r_0_dec_b [sg.2.1.val, i64 sg.2.2.1, sg.2.2.2.1.val] 218) (Ow.star (Blk r_0_b [ptr r_0_dec_b 0, .bool c1_2] 160) (Ow.star (Blk one_1_0_b [sg.2.2.2.2.1.val, sg.2.2.2.2.2.1.val, sg.2.2.2.2.2.2.1.val, str sg.2.2.2.2.2.2.2.1, i64 sg.2.2.2.2.2.2.2.2.1, str sg.2.2.2.2.2.2.2.2.2.1, i64 sg.2.2.2.2.2.2.2.2.2.2.1, str sg.2.2.2.2.2.2.2.2.2.2.2.1, sg.2.2.2.2.2.2.2.2.2.2.2.2.1.val, sg.2.2.2.2.2.2.2.2.2.2.2.2.2.1.val, i64 sg.2.2.2.2.2.2.2.2.2.2.2.2.2.2.1, str sg.2.2.2.2.2.2.2.2.2.2.2.2.2.2.2.1, str sg.2.2.2.2.2.2.2.2.2.2.2.2.2.2.2.2.1, i64 sg.2.2.2.2.2.2.2.2.2.2.2.2.2.2.2.2.2.1, sg.2.2.2.2.2.2.2.2.2.2.2.2.2.2.2.2.2.2.1.val, sg.2.2.2.2.2.2.2.2.2.2.2.2.2.2.2.2.2.2.2.1.val, sg.2.2.2.2.2.2.2.2.2.2.2.2.2.2.2.2.2.2.2.2.val] 35) (Ow.star (Blk one_1_1_b [ptr r_0_b 0] 156) (Ow.star (Sv.own sg.2.2.2.2.2.2.1 113) (Ow.star (Sv.own sg.2.2.2.2.2.2.2.2.2.2.2.2.2.2.2.2.2.2.2.2 154) (Ow.emp))))))) (0, q10_1_1.b, q10_1_1.at_, q10_1_1.err, one_1_0.work, one_1_0.index, one_1_0.refs, one_1_0.head_branch, one_1_0.head_commit, one_1_0.seq_kind, one_1_0.seq_other, one_1_0.seq_text, one_1_0.seq_doing, one_1_0.seq_todo, one_1_0.seq_made, one_1_0.seq_branch, one_1_0.seq_head_branch, one_1_0.seq_head_commit, one_1_0.seq_index, one_1_0.seq_work, one_1_0.stash) [0, 1, 4, 5] hS rfl ?_
 clear hS
 rintro ⟨i5_4, c0_5, c1_6, c2_7, c0_8, c1_9, c2_10, c3_11, c4_12, c5_13, c6_14, c7_15, c8_16, c9_17, c10_18, c11_19, c12_20, c13_21, c14_22, c15_23, c16_24⟩ m1 y1 hS hK1
 refine Zq (Zq (Zr ?_))
 refine Zy ?_
 refine Zu (q_lss rfl rfl) ?_
 refine Zm ?_
 refine Zsp 25 hS (fun h25 hS => ?_) (fun h25 hS => ?_)
 ·
  refine Zg ?_
  refine Zh (q_nilCheck rfl) ?_
  refine Zh (q_field gfa160_0 rfl) ?_
  refine Zh (q_fe gone157 rfl rfl) ?_
  refine VL.guard rfl rfl ?_
  obtain ⟨y30_25, ey30_25, hS⟩ := bd_s hS
  refine VL.callO (codec_Dec_Err_ct r_0_dec_b (⟨c0_5, c1_6, c2_7⟩ : CodecDec) ey30_25) rfl (by decide) ?_
  rintro q30_25_0 rfl
  try dsimp only
  refine Zh (q_ereq Tryz.underlying45 rfl) ?_
  refine Zy ?_
  refine VC.keep (ρ' := [(0, ptr r_0_b 0), (1, .func (.func 151) #[] #[ptr one_1_0_b 0, ptr one_1_1_b 0]), (4, i64 q10_1_0), (5, i64 i5_4), (32, .bool (decide (q30_25_0.pl.isNil = true)))]) [0, 1, 4, 5, 32] rfl ?_
  refine Zc hS (fun h32 hS => ?_) (fun h32 hS => ?_)
  ·
   refine Zk ?_
   refine Zq (Zb (Zr ?_))
   refine Zm ?_
   obtain ⟨y36_26, ey36_26, hS⟩ := bd_s hS
   refine VL.callOV (vs := []) (caps := [ptr one_1_0_b 0, ptr one_1_1_b 0]) (state_reader_now_1_ct one_1_0_b (⟨c0_8, c1_9, c2_10, c3_11, c4_12, c5_13, c6_14, c7_15, c8_16, c9_17, c10_18, c11_19, c12_20, c13_21, c14_22, c15_23, c16_24⟩ : StateNow) one_1_1_b r_0_b (⟨c1_2⟩ : StateReader) r_0_dec_b (⟨c0_5, c1_6, c2_7⟩ : CodecDec) ey36_26) rfl rfl (by decide) ?_
   rintro ⟨q36_26_0, q36_26_1⟩ rfl
   try dsimp only
   refine Zl ?_
   refine Zr ?_
   refine Zm ?_
   obtain ⟨b34, hS⟩ := gd_s hS
   refine Zu (q_add rfl rfl b34) ?_
   refine Za ?_
   refine VL.rnd ((i5_4 + 1), q36_26_1.b, q36_26_1.at_, q36_26_1.err, q36_26_0.work, q36_26_0.index, q36_26_0.refs, q36_26_0.head_branch, q36_26_0.head_commit, q36_26_0.seq_kind, q36_26_0.seq_other, q36_26_0.seq_text, q36_26_0.seq_doing, q36_26_0.seq_todo, q36_26_0.seq_made, q36_26_0.seq_branch, q36_26_0.seq_head_branch, q36_26_0.seq_head_commit, q36_26_0.seq_index, q36_26_0.seq_work, q36_26_0.stash) [0, 1, 4, 5] (fun _ _ h => h) (go2 hS hK1) rfl
  replace hS := up2 hS hK1
  cases hS
  exact VC.exit (fin0 (.inl rfl) rfl (⟨c0_5, c1_6, c2_7⟩, ⟨c1_2⟩, ⟨c0_8, c1_9, c2_10, c3_11, c4_12, c5_13, c6_14, c7_15, c8_16, c9_17, c10_18, c11_19, c12_20, c13_21, c14_22, c15_23, c16_24⟩) rfl rfl (by (try dsimp only); exact InM.out) (by (try dsimp only); exact EntO.out))
 refine VL.skips 6 [31] (by kernel_rfl) ?_
 refine Zy ?_
 refine VC.cond_f rfl ?_
 replace hS := up2 hS hK1
 cases hS
 exact VC.exit (fin0 (.inl rfl) rfl (⟨c0_5, c1_6, c2_7⟩, ⟨c1_2⟩, ⟨c0_8, c1_9, c2_10, c3_11, c4_12, c5_13, c6_14, c7_15, c8_16, c9_17, c10_18, c11_19, c12_20, c13_21, c14_22, c15_23, c16_24⟩) rfl rfl (by (try dsimp only); exact InM.out) (by (try dsimp only); exact EntO.out))
theorem state_reader_head_ct (r_0_b : Nat) (r_0 : StateReader) (r_0_dec_b : Nat) (r_0_dec : CodecDec) {r : NamesHead × CodecDecP} (hS : Sh.state_reader_head r_0 r_0_dec.pl = some r) :
 Ct Tryz.prog 154 [ptr r_0_b 0] (r_0_dec.b.ok.and r_0_dec.err.ok) (Ow.star (Blk r_0_dec_b [r_0_dec.b.val, i64 r_0_dec.at_, r_0_dec.err.val] 218) (Blk r_0_b [ptr r_0_dec_b 0, .bool r_0.bad] 160)) (X := NamesHead × CodecDec) (fun x => .agg #[str x.1.branch, i64 x.1.commit]) (fun x => r = (x.1, x.2.pl)) (fun x => (x.2.b.ok.and x.2.err.ok)) (fun x => Ow.star (Blk r_0_dec_b [x.2.b.val, i64 x.2.at_, x.2.err.val] 218) (Blk r_0_b [ptr r_0_dec_b 0, .bool r_0.bad] 160)) := by
 refine Zo Tryz.func154 Tryz.ntmps154 fun c => ?_
 unfold Sh.state_reader_head at hS
 refine Zq (Zr ?_)
 refine VL.alloc (cs := [str [], i64 0]) (by kernel_rfl) (by decide) fun b2_1 => ?_
 refine Zl ?_
 refine Zq ?_
 refine VC.draw [(0, true), (1, true), (2, true), (3, true), (5, true), (6, true), (7, true), (8, true), (4, false), (9, false), (10, true), (11, false)] mixed (by kernel_rfl) (by kernel_rfl) (by kernel_rfl) ?_
 refine Zw rfl (q_move rfl) ?_
 refine Zw rfl (q_nilCheck rfl) ?_
 refine Zw rfl (q_field gfa160_0 rfl) ?_
 refine Zw rfl (q_fe gone157 rfl rfl) ?_
 refine Zw rfl (q_move rfl) ?_
 refine Zw rfl (q_nilCheck rfl) ?_
 refine Zw rfl (q_field gfa160_0 rfl) ?_
 refine Zw rfl (q_fe gone157 rfl rfl) ?_
 refine VD.one rfl ?_
 obtain ⟨y7_2, ey7_2, hS⟩ := bd_s hS
 refine VL.callO (codec_Dec_Text_ct r_0_dec_b r_0_dec ey7_2) rfl (by decide) ?_
 rintro ⟨q7_2_0, q7_2_1⟩ rfl
 try dsimp only
 refine VL.back (D' := [(8, ptr r_0_dec_b 0), (7, ptr r_0_b 0), (6, ptr r_0_b 0)]) (by kernel_rfl) (Pend.cons rfl (q_fe gone157 rfl rfl) (Pend.cons rfl (q_field gfa160_0 rfl) (Pend.cons rfl (q_nilCheck rfl) (Pend.nil)))) ?_
 refine VD.one rfl ?_
 obtain ⟨y12_3, ey12_3, hS⟩ := bd_s hS
 refine VL.callO (codec_Dec_Int_ct r_0_dec_b q7_2_1 ey12_3) rfl (by decide) ?_
 rintro ⟨q12_3_0, q12_3_1⟩ rfl
 try dsimp only
 refine VL.back (D' := []) (by kernel_rfl) (Pend.nil) ?_
 refine Zw rfl (q_build (vs := [(0, str q7_2_0), (1, i64 q12_3_0)]) (cs := #[str q7_2_0, i64 q12_3_0]) rfl (by kernel_rfl)) ?_
 refine VD.one rfl ?_
 refine Zv (vc := [str q7_2_0, i64 q12_3_0]) (cs' := [str q7_2_0, i64 q12_3_0]) rfl gsz28 ?_
 refine VL.back (D' := []) (by kernel_rfl) (Pend.nil) ?_
 refine VD.to (fun _ _ h => h) ?_
 refine VC.keep (ρ' := [(2, ptr b2_1 0)]) [2] rfl ?_
 cases hS
 exact VC.ret (finG (vs := [.agg #[str q7_2_0, i64 q12_3_0]]) (.inr rfl) rfl (RVs.cell gagg28 rfl rfl Rd.blk (RVs.nil)) (⟨q7_2_0, q12_3_0⟩, ⟨q12_3_1.b, q12_3_1.at_, q12_3_1.err⟩) rfl rfl (by (try dsimp only); exact InM.out) (by (try dsimp only); exact EntO.out))
theorem state_reader_steps_1_ct (a_0_b : Nat) (a_0 : Sv TodoStep) (a_1_b : Nat) (a_1__b : Nat) (a_1_ : StateReader) (a_1__dec_b : Nat) (a_1__dec : CodecDec) {r : List TodoStep × CodecDecP} (hS : Sh.state_reader_steps_1 a_0.l a_1_ a_1__dec.pl = some r) :
 Ct Tryz.prog 295 [ptr a_0_b 0, ptr a_1_b 0] (a_1__dec.b.ok.and a_1__dec.err.ok) (Ow.star (Sv.own a_0 129) (Ow.star (Blk a_0_b [a_0.val] 29) (Ow.star (Blk a_1__dec_b [a_1__dec.b.val, i64 a_1__dec.at_, a_1__dec.err.val] 218) (Ow.star (Blk a_1__b [ptr a_1__dec_b 0, .bool a_1_.bad] 160) (Blk a_1_b [ptr a_1__b 0] 156))))) (X := Sv TodoStep × CodecDec) (fun x => .tuple #[]) (fun x => r = (x.1.l, x.2.pl)) (fun x => (x.2.b.ok.and x.2.err.ok)) (fun x => Ow.star (Blk a_0_b [x.1.val] 29) (Ow.star (Sv.own x.1 129) (Ow.star (Blk a_1__dec_b [x.2.b.val, i64 x.2.at_, x.2.err.val] 218) (Ow.star (Blk a_1__b [ptr a_1__dec_b 0, .bool a_1_.bad] 160) (Blk a_1_b [ptr a_1__b 0] 156))))) := by
 refine Zo Tryz.func295 Tryz.ntmps295 fun c => ?_
 unfold Sh.state_reader_steps_1 at hS
 refine VC.draw [(0, true), (1, true), (2, true), (3, true), (4, true), (6, true), (7, true), (8, true), (9, true), (11, true), (12, true), (13, true), (14, true), (5, false), (10, false), (15, false), (16, true), (17, false), (18, false), (19, false)] mixed (by kernel_rfl) (by kernel_rfl) (by kernel_rfl) ?_
 refine Zw rfl (q_fe gone29 rfl rfl) ?_
 refine Zw rfl (q_fe gone156 rfl rfl) ?_
 refine Zw rfl (q_nilCheck rfl) ?_
 refine Zw rfl (q_field gfa160_0 rfl) ?_
 refine Zw rfl (q_fe gone157 rfl rfl) ?_
 refine Zw rfl (q_fe gone156 rfl rfl) ?_
 refine Zw rfl (q_nilCheck rfl) ?_
 refine Zw rfl (q_field gfa160_0 rfl) ?_
 refine Zw rfl (q_fe gone157 rfl rfl) ?_
 refine Zw rfl (q_fe gone156 rfl rfl) ?_
 refine Zw rfl (q_nilCheck rfl) ?_
 refine Zw rfl (q_field gfa160_0 rfl) ?_
 refine Zw rfl (q_fe gone157 rfl rfl) ?_
 refine VD.one rfl ?_
 obtain ⟨y7_1, ey7_1, hS⟩ := bd_s hS
 refine VL.callO (codec_Dec_Text_ct a_1__dec_b a_1__dec ey7_1) rfl (by decide) ?_
 rintro ⟨q7_1_0, q7_1_1⟩ rfl
 try dsimp only
 refine VL.back (D' := [(14, ptr a_1__dec_b 0), (13, ptr a_1__b 0), (12, ptr a_1__b 0), (11, ptr a_1__b 0), (9, ptr a_1__dec_b 0), (8, ptr a_1__b 0), (7, ptr a_1__b 0), (6, ptr a_1__b 0), (0, a_0.val)]) (by kernel_rfl) (Pend.cons rfl (q_fe gone157 rfl rfl) (Pend.cons rfl (q_field gfa160_0 rfl) (Pend.cons rfl (q_nilCheck rfl) (Pend.cons rfl (q_fe gone156 rfl rfl) (Pend.cons rfl (q_fe gone157 rfl rfl) (Pend.cons rfl (q_field gfa160_0 rfl) (Pend.cons rfl (q_nilCheck rfl) (Pend.cons rfl (q_fe gone156 rfl rfl) (Pend.cons rfl (q_fe gone29 rfl rfl) (Pend.nil)))))))))) ?_
 refine VD.one rfl ?_
 obtain ⟨y12_2, ey12_2, hS⟩ := bd_s hS
 refine VL.callO (codec_Dec_Int_ct a_1__dec_b q7_1_1 ey12_2) rfl (by decide) ?_
 rintro ⟨q12_2_0, q12_2_1⟩ rfl
 try dsimp only
 refine VL.back (D' := [(14, ptr a_1__dec_b 0), (13, ptr a_1__b 0), (12, ptr a_1__b 0), (11, ptr a_1__b 0), (0, a_0.val)]) (by kernel_rfl) (Pend.cons rfl (q_fe gone157 rfl rfl) (Pend.cons rfl (q_field gfa160_0 rfl) (Pend.cons rfl (q_nilCheck rfl) (Pend.cons rfl (q_fe gone156 rfl rfl) (Pend.cons rfl (q_fe gone29 rfl rfl) (Pend.nil)))))) ?_
 refine VD.one rfl ?_
 obtain ⟨y17_3, ey17_3, hS⟩ := bd_s hS
 refine VL.callO (codec_Dec_Text_ct a_1__dec_b q12_2_1 ey17_3) rfl (by decide) ?_
 rintro ⟨q17_3_0, q17_3_1⟩ rfl
 try dsimp only
 refine VL.back (D' := [(0, a_0.val)]) (by kernel_rfl) (Pend.cons rfl (q_fe gone29 rfl rfl) (Pend.nil)) ?_
 refine Zw rfl (q_build (vs := [(0, str q7_1_0), (1, i64 q12_2_0), (2, str q17_3_0)]) (cs := #[str q7_1_0, i64 q12_2_0, str q17_3_0]) rfl (by kernel_rfl)) ?_
 refine VD.one rfl ?_
 refine VL.lit (α := TodoStep) (xs := [.tmp 18]) (vs := [.agg #[str q7_1_0, i64 q12_2_0, str q17_3_0]]) [⟨q7_1_0, q12_2_0, q17_3_0⟩] Tryz.underlying29 glit129 (by decide) rfl rfl rfl rfl (by decide) (fun _ _ _ _ => trivial) (by decide) (fun s19_4 hs19_4 => ?_) (by decide)
 replace hS := lt_to hs19_4 hS
 refine VL.back (D' := [(0, a_0.val)]) (by kernel_rfl) (Pend.cons rfl (q_fe gone29 rfl rfl) (Pend.nil)) ?_
 refine VD.one rfl ?_
 obtain ⟨b20, hS⟩ := gd_s hS
 refine VL.app (s := a_0) (r := s19_4) Tryz.underlying29 gapp129 (by decide) rfl Fo.out (ap1 b20) (ap2 b20 (by decide)) (by decide) (fun s20_6 hs20_6 => ?_)
 replace hS := lt_to hs20_6 hS
 refine VL.back (D' := []) (by kernel_rfl) (Pend.nil) ?_
 refine VD.one rfl ?_
 refine Zv (vc := [s20_6.val]) (cs' := [s20_6.val]) rfl gsz29 ?_
 refine VL.back (D' := []) (by kernel_rfl) (Pend.nil) ?_
 cases hS
 exact VD.nil (fin0 (.inl rfl) rfl (s20_6, ⟨q17_3_1.b, q17_3_1.at_, q17_3_1.err⟩) rfl rfl (by (try dsimp only); exact InM.out) (by (try dsimp only); exact EntO.out))
theorem state_reader_many_v4_ct (r_0_b : Nat) (r_0 : StateReader) (r_0_dec_b : Nat) (r_0_dec : CodecDec) (one_1_0_b : Nat) (one_1_0 : Sv TodoStep) (one_1_1_b : Nat) {r : CodecDecP × StateReader × List TodoStep} (hS : Sh.state_reader_many_v4 r_0 r_0_dec.pl one_1_0.l = some r) :
 Ct Tryz.prog 150 [ptr r_0_b 0, .func (.func 295) #[] #[ptr one_1_0_b 0, ptr one_1_1_b 0]] (r_0_dec.b.ok.and r_0_dec.err.ok) (Ow.star (Blk r_0_dec_b [r_0_dec.b.val, i64 r_0_dec.at_, r_0_dec.err.val] 218) (Ow.star (Blk r_0_b [ptr r_0_dec_b 0, .bool r_0.bad] 160) (Ow.star (Sv.own one_1_0 129) (Ow.star (Blk one_1_0_b [one_1_0.val] 29) (Blk one_1_1_b [ptr r_0_b 0] 156))))) (X := CodecDec × StateReader × Sv TodoStep) (fun x => .tuple #[]) (fun x => r = (x.1.pl, x.2.1, x.2.2.l)) (fun x => (x.1.b.ok.and x.1.err.ok)) (fun x => Ow.star (Blk r_0_dec_b [x.1.b.val, i64 x.1.at_, x.1.err.val] 218) (Ow.star (Blk r_0_b [ptr r_0_dec_b 0, .bool x.2.1.bad] 160) (Ow.star (Blk one_1_0_b [x.2.2.val] 29) (Ow.star (Sv.own x.2.2 129) (Blk one_1_1_b [ptr r_0_b 0] 156))))) := by
 refine Zo Tryz.func150 Tryz.ntmps150 fun c => ?_
 unfold Sh.state_reader_many_v4 at hS
 refine Zq (Zr ?_)
 refine Zm ?_
 refine Zu (q_nilCheck rfl) ?_
 refine Zu (q_field gfa160_0 rfl) ?_
 refine Zu (q_fe gone157 rfl rfl) ?_
 obtain ⟨y10_1, ey10_1, hS⟩ := bd_s hS
 refine VL.callO (codec_Dec_Int_ct r_0_dec_b r_0_dec ey10_1) rfl (by decide) ?_
 rintro ⟨q10_1_0, q10_1_1⟩ rfl
 try dsimp only
 refine Zy ?_
 refine VC.cutJ (S := Bool) (fun (c1_2 : Bool) => c1_2) (fun (c1_2 : Bool) => [(0, ptr r_0_b 0), (1, .func (.func 295) #[] #[ptr one_1_0_b 0, ptr one_1_1_b 0]), (4, i64 q10_1_0)]) (fun (c1_2 : Bool) => Mo.tt) (fun (c1_2 : Bool) => Ow.star (Blk r_0_dec_b [q10_1_1.b.val, i64 q10_1_1.at_, q10_1_1.err.val] 218) (Ow.star (Blk r_0_b [ptr r_0_dec_b 0, .bool c1_2] 160) (Ow.star (Blk one_1_0_b [one_1_0.val] 29) (Ow.star (Blk one_1_1_b [ptr r_0_b 0] 156) (Ow.star (Sv.own one_1_0 129) (Ow.emp)))))) hS ?_ ?_
 ·
  clear hS
  intro k3 hS
  refine Zr ?_
  refine Zy ?_
  refine Zu (q_nilCheck rfl) ?_
  refine Zu (q_field gfa160_1 rfl) ?_
  refine Zu (q_fe gone4 rfl rfl) ?_
  refine Zm ?_
  refine Zspb 16 hS (fun h16 hS => ?_) (fun h16 hS => ?_)
  ·
   refine Zy ?_
   refine Zu (q_nilCheck rfl) ?_
   refine Zu (q_field gfa160_1 rfl) ?_
   refine Zv (vc := [.bool true]) (cs' := [ptr r_0_dec_b 0, .bool true]) rfl gsz4 ?_
   refine VL.mt true [0, 1, 4] (fun _ _ h => h) hS rfl
  refine Zg ?_
  refine Zh (q_lss rfl rfl) ?_
  refine Zf ?_
  refine Zu (q_nilCheck rfl) ?_
  refine Zu (q_field gfa160_1 rfl) ?_
  refine Zv (vc := [.bool (decide (q10_1_0 < 0))]) (cs' := [ptr r_0_dec_b 0, .bool (decide (q10_1_0 < 0))]) rfl gsz4 ?_
  refine VL.mt (decide (q10_1_0 < 0)) [0, 1, 4] (fun _ _ h => h) hS rfl
 clear hS
 rintro c1_2 hS
 refine Zq (Zr ?_)
 refine Zy ?_
 refine Zb ?_
 refine VC.iter (S := Int × Sv UInt8 × Int × Er × Sv TodoStep) (fun sg => (sg.1, sg.2.1.l, sg.2.2.1, sg.2.2.2.1.pl, sg.2.2.2.2.l)) (fun sg => [(0, ptr r_0_b 0), (1, .func (.func 295) #[] #[ptr one_1_0_b 0, ptr one_1_1_b 0]), (4, i64 q10_1_0), (5, i64 sg.1)]) (fun sg => (sg.2.1.ok.and sg.2.2.2.1.ok)) (fun sg => Ow.star (Blk r_0_dec_b [sg.2.1.val, i64 sg.2.2.1, sg.2.2.2.1.val] 218) (Ow.star (Blk r_0_b [ptr r_0_dec_b 0, .bool c1_2] 160) (Ow.star (Blk one_1_0_b [sg.2.2.2.2.val] 29) (Ow.star (Blk one_1_1_b [ptr r_0_b 0] 156) (Ow.star (Sv.own sg.2.2.2.2 129) (Ow.emp)))))) (0, q10_1_1.b, q10_1_1.at_, q10_1_1.err, one_1_0) [0, 1, 4, 5] hS rfl ?_
 clear hS
 rintro ⟨i5_4, c0_5, c1_6, c2_7, c0_8⟩ m1 y1 hS hK1
 refine Zq (Zq (Zr ?_))
 refine Zy ?_
 refine Zu (q_lss rfl rfl) ?_
 refine Zm ?_
 refine Zsp 25 hS (fun h25 hS => ?_) (fun h25 hS => ?_)
 ·
  refine Zg ?_
  refine Zh (q_nilCheck rfl) ?_
  refine Zh (q_field gfa160_0 rfl) ?_
  refine Zh (q_fe gone157 rfl rfl) ?_
  refine VL.guard rfl rfl ?_
  obtain ⟨y30_9, ey30_9, hS⟩ := bd_s hS
  refine VL.callO (codec_Dec_Err_ct r_0_dec_b (⟨c0_5, c1_6, c2_7⟩ : CodecDec) ey30_9) rfl (by decide) ?_
  rintro q30_9_0 rfl
  try dsimp only
  refine Zh (q_ereq Tryz.underlying45 rfl) ?_
  refine Zy ?_
  refine VC.keep (ρ' := [(0, ptr r_0_b 0), (1, .func (.func 295) #[] #[ptr one_1_0_b 0, ptr one_1_1_b 0]), (4, i64 q10_1_0), (5, i64 i5_4), (32, .bool (decide (q30_9_0.pl.isNil = true)))]) [0, 1, 4, 5, 32] rfl ?_
  refine Zc hS (fun h32 hS => ?_) (fun h32 hS => ?_)
  ·
   refine Zk ?_
   refine Zq (Zb (Zr ?_))
   refine Zm ?_
   obtain ⟨y36_10, ey36_10, hS⟩ := bd_s hS
   refine VL.callOV (vs := []) (caps := [ptr one_1_0_b 0, ptr one_1_1_b 0]) (state_reader_steps_1_ct one_1_0_b c0_8 one_1_1_b r_0_b (⟨c1_2⟩ : StateReader) r_0_dec_b (⟨c0_5, c1_6, c2_7⟩ : CodecDec) ey36_10) rfl rfl (by decide) ?_
   rintro ⟨q36_10_0, q36_10_1⟩ rfl
   try dsimp only
   refine Zl ?_
   refine Zr ?_
   refine Zm ?_
   obtain ⟨b34, hS⟩ := gd_s hS
   refine Zu (q_add rfl rfl b34) ?_
   refine Za ?_
   refine VL.rnd ((i5_4 + 1), q36_10_1.b, q36_10_1.at_, q36_10_1.err, q36_10_0) [0, 1, 4, 5] (fun _ _ h => h) (go2 hS hK1) rfl
  replace hS := up2 hS hK1
  cases hS
  exact VC.exit (fin0 (.inl rfl) rfl (⟨c0_5, c1_6, c2_7⟩, ⟨c1_2⟩, c0_8) rfl rfl (by (try dsimp only); exact InM.out) (by (try dsimp only); exact EntO.out))
 refine VL.skips 6 [31] (by kernel_rfl) ?_
 refine Zy ?_
 refine VC.cond_f rfl ?_
 replace hS := up2 hS hK1
 cases hS
 exact VC.exit (fin0 (.inl rfl) rfl (⟨c0_5, c1_6, c2_7⟩, ⟨c1_2⟩, c0_8) rfl rfl (by (try dsimp only); exact InM.out) (by (try dsimp only); exact EntO.out))
theorem slices_Clip_todo_Step_todo_Step_ct (s_0 : Sv TodoStep) {r : List TodoStep} (hS : Sh.slices_Clip_todo_Step_todo_Step s_0.l = some r) :
 Ct Tryz.prog 54 [s_0.val] s_0.ok (Ow.emp) (X := Sv TodoStep) (fun x => x.val) (fun x => r = x.l) (fun x => x.ok) (fun x => Ow.emp) := by
 refine Zo Tryz.func54 Tryz.ntmps54 fun c => ?_
 unfold Sh.slices_Clip_todo_Step_todo_Step at hS
 refine Zq (Zr ?_)
 refine Zy ?_
 refine Zq (Zr ?_)
 refine Zy ?_
 refine Zu (q_ln (s := s_0) Tryz.underlying29 rfl) ?_
 refine Zm ?_
 refine Zu (q_ln (s := s_0) Tryz.underlying29 rfl) ?_
 obtain ⟨b8, hS⟩ := gd_s hS
 refine VL.stom Tryz.underlying29 gsz129 rfl rfl rfl b8.1 (b8.2) (by decide) fun s8_1 hs8_1 => ?_
 replace hS := lt_to hs8_1 hS
 refine Zy ?_
 cases hS
 exact VC.ret (fin1 (.inr rfl) rfl rfl s8_1 rfl rfl (by (try dsimp only); exact InM.out) (fun _ _ => trivial))
theorem state_reader_steps_ct (r_0_b : Nat) (r_0 : StateReader) (r_0_dec_b : Nat) (r_0_dec : CodecDec) {r : List TodoStep × CodecDecP × StateReader} (hS : Sh.state_reader_steps r_0 r_0_dec.pl = some r) :
 Ct Tryz.prog 243 [ptr r_0_b 0] (r_0_dec.b.ok.and r_0_dec.err.ok) (Ow.star (Blk r_0_dec_b [r_0_dec.b.val, i64 r_0_dec.at_, r_0_dec.err.val] 218) (Blk r_0_b [ptr r_0_dec_b 0, .bool r_0.bad] 160)) (X := Sv TodoStep × CodecDec × StateReader) (fun x => x.1.val) (fun x => r = (x.1.l, x.2.1.pl, x.2.2)) (fun x => (x.1.ok.and (x.2.1.b.ok.and x.2.1.err.ok))) (fun x => Ow.star (Blk r_0_dec_b [x.2.1.b.val, i64 x.2.1.at_, x.2.1.err.val] 218) (Blk r_0_b [ptr r_0_dec_b 0, .bool x.2.2.bad] 160)) := by
 refine Zo Tryz.func243 Tryz.ntmps243 fun c => ?_
 unfold Sh.state_reader_steps at hS
 refine Zq (Zr ?_)
 refine VL.box (cs := [ptr r_0_b 0]) rfl rfl (by decide) fun b1_1 => ?_
 refine Zy ?_
 refine Zq (Zr ?_)
 refine VL.alloc (cs := [.slice none 0 0]) (by kernel_rfl) (by decide) fun b3_2 => ?_
 refine Zl ?_
 refine Zq (Zr ?_)
 refine Zu (q_fe gone156 rfl rfl) ?_
 refine Zu (q_mkfn rfl) ?_
 refine VL.nilO (⟨none, 0, []⟩ : Sv TodoStep) 129 ⟨rfl, rfl⟩ ?_
 refine VL.reB b3_2 (cs' := [(⟨none, 0, []⟩ : Sv TodoStep).val]) rfl ?_
 obtain ⟨y6_3, ey6_3, hS⟩ := bd_s hS
 refine VL.callO (state_reader_many_v4_ct r_0_b r_0 r_0_dec_b r_0_dec b3_2 (⟨none, 0, []⟩ : Sv TodoStep) b1_1 ey6_3) rfl (by decide) ?_
 rintro ⟨q6_3_0, q6_3_1, q6_3_2⟩ rfl
 try dsimp only
 refine Zl ?_
 refine Zq (Zr ?_)
 refine Zu (q_fe gone29 rfl rfl) ?_
 refine VL.shut q6_3_2 129 (fun _ _ _ _ => trivial) ?_
 obtain ⟨y8_4, ey8_4, hS⟩ := bd_s hS
 refine VL.callF (slices_Clip_todo_Step_todo_Step_ct q6_3_2 ey8_4) rfl (by decide) ?_
 rintro q8_4_0 rfl
 try dsimp only
 refine Zy ?_
 cases hS
 exact VC.ret (fin1 (.inr rfl) rfl rfl (q8_4_0, ⟨q6_3_0.b, q6_3_0.at_, q6_3_0.err⟩, ⟨q6_3_1.bad⟩) rfl rfl (by (try dsimp only); exact InM.out) (by (try dsimp only); exact EntO.out))
theorem state_reader_seq_ct (r_0_b : Nat) (r_0 : StateReader) (r_0_dec_b : Nat) (r_0_dec : CodecDec) {r : StateSeqP × CodecDecP × StateReader} (hS : Sh.state_reader_seq r_0 r_0_dec.pl = some r) :
 Ct Tryz.prog 155 [ptr r_0_b 0] (r_0_dec.b.ok.and r_0_dec.err.ok) (Ow.star (Blk r_0_dec_b [r_0_dec.b.val, i64 r_0_dec.at_, r_0_dec.err.val] 218) (Blk r_0_b [ptr r_0_dec_b 0, .bool r_0.bad] 160)) (X := StateSeq × CodecDec × StateReader) (fun x => .agg (Dat.enc x.1).toArray) (fun x => r = (x.1.pl, x.2.1.pl, x.2.2)) (fun x => (x.1.m.and (x.2.1.b.ok.and x.2.1.err.ok))) (fun x => Ow.star (Blk r_0_dec_b [x.2.1.b.val, i64 x.2.1.at_, x.2.1.err.val] 218) (Blk r_0_b [ptr r_0_dec_b 0, .bool x.2.2.bad] 160)) := by
 refine Zo Tryz.func155 Tryz.ntmps155 fun c => ?_
 unfold Sh.state_reader_seq at hS
 refine Zq (Zr ?_)
 refine VL.alloc (cs := [str [], i64 0, str [], .slice none 0 0, .slice none 0 0, i64 0, str [], str [], i64 0, .slice none 0 0, .slice none 0 0]) (by kernel_rfl) (by decide) fun b2_1 => ?_
 refine Zl ?_
 refine Zq ?_
 refine VC.draw [(0, true), (1, true), (2, true), (3, true), (5, true), (6, true), (7, true), (8, true), (10, true), (11, true), (12, true), (13, true), (15, true), (17, true), (19, true), (20, true), (21, true), (22, true), (24, true), (25, true), (26, true), (27, true), (29, true), (31, true), (33, true), (4, false), (9, false), (14, false), (16, false), (18, false), (23, false), (28, false), (30, false), (32, false), (34, false), (35, true), (36, false)] mixed (by kernel_rfl) (by kernel_rfl) (by kernel_rfl) ?_
 refine Zw rfl (q_move rfl) ?_
 refine Zw rfl (q_nilCheck rfl) ?_
 refine Zw rfl (q_field gfa160_0 rfl) ?_
 refine Zw rfl (q_fe gone157 rfl rfl) ?_
 refine Zw rfl (q_move rfl) ?_
 refine Zw rfl (q_nilCheck rfl) ?_
 refine Zw rfl (q_field gfa160_0 rfl) ?_
 refine Zw rfl (q_fe gone157 rfl rfl) ?_
 refine Zw rfl (q_move rfl) ?_
 refine Zw rfl (q_nilCheck rfl) ?_
 refine Zw rfl (q_field gfa160_0 rfl) ?_
 refine Zw rfl (q_fe gone157 rfl rfl) ?_
 refine Zw rfl (q_move rfl) ?_
 refine Zw rfl (q_move rfl) ?_
 refine Zw rfl (q_move rfl) ?_
 refine Zw rfl (q_nilCheck rfl) ?_
 refine Zw rfl (q_field gfa160_0 rfl) ?_
 refine Zw rfl (q_fe gone157 rfl rfl) ?_
 refine Zw rfl (q_move rfl) ?_
 refine Zw rfl (q_nilCheck rfl) ?_
 refine Zw rfl (q_field gfa160_0 rfl) ?_
 refine Zw rfl (q_fe gone157 rfl rfl) ?_
 refine Zw rfl (q_move rfl) ?_
 refine Zw rfl (q_move rfl) ?_
 refine Zw rfl (q_move rfl) ?_
 refine VD.one rfl ?_
 obtain ⟨y7_2, ey7_2, hS⟩ := bd_s hS
 refine VL.callO (codec_Dec_Text_ct r_0_dec_b r_0_dec ey7_2) rfl (by decide) ?_
 rintro ⟨q7_2_0, q7_2_1⟩ rfl
 try dsimp only
 refine VL.back (D' := [(27, ptr r_0_dec_b 0), (26, ptr r_0_b 0), (25, ptr r_0_b 0), (22, ptr r_0_dec_b 0), (21, ptr r_0_b 0), (20, ptr r_0_b 0), (13, ptr r_0_dec_b 0), (12, ptr r_0_b 0), (11, ptr r_0_b 0), (8, ptr r_0_dec_b 0), (7, ptr r_0_b 0), (6, ptr r_0_b 0)]) (by kernel_rfl) (Pend.cons rfl (q_fe gone157 rfl rfl) (Pend.cons rfl (q_field gfa160_0 rfl) (Pend.cons rfl (q_nilCheck rfl) (Pend.cons rfl (q_fe gone157 rfl rfl) (Pend.cons rfl (q_field gfa160_0 rfl) (Pend.cons rfl (q_nilCheck rfl) (Pend.cons rfl (q_fe gone157 rfl rfl) (Pend.cons rfl (q_field gfa160_0 rfl) (Pend.cons rfl (q_nilCheck rfl) (Pend.cons rfl (q_fe gone157 rfl rfl) (Pend.cons rfl (q_field gfa160_0 rfl) (Pend.cons rfl (q_nilCheck rfl) (Pend.nil))))))))))))) ?_
 refine VD.one rfl ?_
 obtain ⟨y12_3, ey12_3, hS⟩ := bd_s hS
 refine VL.callO (codec_Dec_Int_ct r_0_dec_b q7_2_1 ey12_3) rfl (by decide) ?_
 rintro ⟨q12_3_0, q12_3_1⟩ rfl
 try dsimp only
 refine VL.back (D' := [(27, ptr r_0_dec_b 0), (26, ptr r_0_b 0), (25, ptr r_0_b 0), (22, ptr r_0_dec_b 0), (21, ptr r_0_b 0), (20, ptr r_0_b 0), (13, ptr r_0_dec_b 0), (12, ptr r_0_b 0), (11, ptr r_0_b 0)]) (by kernel_rfl) (Pend.cons rfl (q_fe gone157 rfl rfl) (Pend.cons rfl (q_field gfa160_0 rfl) (Pend.cons rfl (q_nilCheck rfl) (Pend.cons rfl (q_fe gone157 rfl rfl) (Pend.cons rfl (q_field gfa160_0 rfl) (Pend.cons rfl (q_nilCheck rfl) (Pend.cons rfl (q_fe gone157 rfl rfl) (Pend.cons rfl (q_field gfa160_0 rfl) (Pend.cons rfl (q_nilCheck rfl) (Pend.nil)))))))))) ?_
 refine VD.one rfl ?_
 obtain ⟨y17_4, ey17_4, hS⟩ := bd_s hS
 refine VL.callO (codec_Dec_Text_ct r_0_dec_b q12_3_1 ey17_4) rfl (by decide) ?_
 rintro ⟨q17_4_0, q17_4_1⟩ rfl
 try dsimp only
 refine VL.back (D' := [(27, ptr r_0_dec_b 0), (26, ptr r_0_b 0), (25, ptr r_0_b 0), (22, ptr r_0_dec_b 0), (21, ptr r_0_b 0), (20, ptr r_0_b 0)]) (by kernel_rfl) (Pend.cons rfl (q_fe gone157 rfl rfl) (Pend.cons rfl (q_field gfa160_0 rfl) (Pend.cons rfl (q_nilCheck rfl) (Pend.cons rfl (q_fe gone157 rfl rfl) (Pend.cons rfl (q_field gfa160_0 rfl) (Pend.cons rfl (q_nilCheck rfl) (Pend.nil))))))) ?_
 refine VD.one rfl ?_
 obtain ⟨y19_5, ey19_5, hS⟩ := bd_s hS
 refine VL.callO (state_reader_steps_ct r_0_b r_0 r_0_dec_b q17_4_1 ey19_5) rfl (by decide) ?_
 rintro ⟨q19_5_0, q19_5_1, q19_5_2⟩ rfl
 try dsimp only
 refine VL.back (D' := [(27, ptr r_0_dec_b 0), (26, ptr r_0_b 0), (25, ptr r_0_b 0), (22, ptr r_0_dec_b 0), (21, ptr r_0_b 0), (20, ptr r_0_b 0)]) (by kernel_rfl) (Pend.cons rfl (q_fe gone157 rfl rfl) (Pend.cons rfl (q_field gfa160_0 rfl) (Pend.cons rfl (q_nilCheck rfl) (Pend.cons rfl (q_fe gone157 rfl rfl) (Pend.cons rfl (q_field gfa160_0 rfl) (Pend.cons rfl (q_nilCheck rfl) (Pend.nil))))))) ?_
 refine VD.one rfl ?_
 obtain ⟨y21_6, ey21_6, hS⟩ := bd_s hS
 refine VL.callO (state_reader_steps_ct r_0_b q19_5_2 r_0_dec_b q19_5_1 ey21_6) rfl (by decide) ?_
 rintro ⟨q21_6_0, q21_6_1, q21_6_2⟩ rfl
 try dsimp only
 refine VL.back (D' := [(27, ptr r_0_dec_b 0), (26, ptr r_0_b 0), (25, ptr r_0_b 0), (22, ptr r_0_dec_b 0), (21, ptr r_0_b 0), (20, ptr r_0_b 0)]) (by kernel_rfl) (Pend.cons rfl (q_fe gone157 rfl rfl) (Pend.cons rfl (q_field gfa160_0 rfl) (Pend.cons rfl (q_nilCheck rfl) (Pend.cons rfl (q_fe gone157 rfl rfl) (Pend.cons rfl (q_field gfa160_0 rfl) (Pend.cons rfl (q_nilCheck rfl) (Pend.nil))))))) ?_
 refine VD.one rfl ?_
 obtain ⟨y26_7, ey26_7, hS⟩ := bd_s hS
 refine VL.callO (codec_Dec_Int_ct r_0_dec_b q21_6_1 ey26_7) rfl (by decide) ?_
 rintro ⟨q26_7_0, q26_7_1⟩ rfl
 try dsimp only
 refine VL.back (D' := [(27, ptr r_0_dec_b 0), (26, ptr r_0_b 0), (25, ptr r_0_b 0)]) (by kernel_rfl) (Pend.cons rfl (q_fe gone157 rfl rfl) (Pend.cons rfl (q_field gfa160_0 rfl) (Pend.cons rfl (q_nilCheck rfl) (Pend.nil)))) ?_
 refine VD.one rfl ?_
 obtain ⟨y31_8, ey31_8, hS⟩ := bd_s hS
 refine VL.callO (codec_Dec_Text_ct r_0_dec_b q26_7_1 ey31_8) rfl (by decide) ?_
 rintro ⟨q31_8_0, q31_8_1⟩ rfl
 try dsimp only
 refine VL.back (D' := []) (by kernel_rfl) (Pend.nil) ?_
 refine VD.one rfl ?_
 obtain ⟨y33_9, ey33_9, hS⟩ := bd_s hS
 refine VL.callO (state_reader_head_ct r_0_b q21_6_2 r_0_dec_b q31_8_1 ey33_9) rfl (by decide) ?_
 rintro ⟨q33_9_0, q33_9_1⟩ rfl
 try dsimp only
 refine VL.back (D' := []) (by kernel_rfl) (Pend.nil) ?_
 refine VD.one rfl ?_
 obtain ⟨y35_10, ey35_10, hS⟩ := bd_s hS
 refine VL.callO (state_reader_entries_ct r_0_b q21_6_2 r_0_dec_b q33_9_1 ey35_10) rfl (by decide) ?_
 rintro ⟨q35_10_0, q35_10_1, q35_10_2⟩ rfl
 try dsimp only
 refine VL.back (D' := []) (by kernel_rfl) (Pend.nil) ?_
 refine VD.one rfl ?_
 obtain ⟨y37_11, ey37_11, hS⟩ := bd_s hS
 refine VL.callO (state_reader_row_ct r_0_b q35_10_2 r_0_dec_b q35_10_1 ey37_11) rfl (by decide) ?_
 rintro ⟨q37_11_0, q37_11_1, q37_11_2⟩ rfl
 try dsimp only
 refine VL.back (D' := []) (by kernel_rfl) (Pend.nil) ?_
 refine Zw rfl (q_build (vs := [(0, str q7_2_0), (1, i64 q12_3_0), (2, str q17_4_0), (3, q19_5_0.val), (4, q21_6_0.val), (5, i64 q26_7_0), (6, str q31_8_0), (7, .agg #[str q33_9_0.branch, i64 q33_9_0.commit]), (8, q35_10_0.val), (9, q37_11_0.val)]) (cs := #[str q7_2_0, i64 q12_3_0, str q17_4_0, q19_5_0.val, q21_6_0.val, i64 q26_7_0, str q31_8_0, str q33_9_0.branch, i64 q33_9_0.commit, q35_10_0.val, q37_11_0.val]) rfl (by kernel_rfl)) ?_
 refine VD.one rfl ?_
 refine Zv (vc := [str q7_2_0, i64 q12_3_0, str q17_4_0, q19_5_0.val, q21_6_0.val, i64 q26_7_0, str q31_8_0, str q33_9_0.branch, i64 q33_9_0.commit, q35_10_0.val, q37_11_0.val]) (cs' := [str q7_2_0, i64 q12_3_0, str q17_4_0, q19_5_0.val, q21_6_0.val, i64 q26_7_0, str q31_8_0, str q33_9_0.branch, i64 q33_9_0.commit, q35_10_0.val, q37_11_0.val]) rfl gsz31 ?_
 refine VL.back (D' := []) (by kernel_rfl) (Pend.nil) ?_
 refine VD.to (fun _ _ h => h) ?_
 refine VC.keep (ρ' := [(2, ptr b2_1 0)]) [2] rfl ?_
 cases hS
 exact VC.ret (finG (vs := [.agg #[str q7_2_0, i64 q12_3_0, str q17_4_0, q19_5_0.val, q21_6_0.val, i64 q26_7_0, str q31_8_0, str q33_9_0.branch, i64 q33_9_0.commit, q35_10_0.val, q37_11_0.val]]) (.inr rfl) rfl (RVs.cell gagg31 rfl rfl Rd.blk (RVs.nil)) (⟨q7_2_0, q12_3_0, q17_4_0, q19_5_0, q21_6_0, q26_7_0, q31_8_0, q33_9_0.branch, q33_9_0.commit, q35_10_0, q37_11_0⟩, ⟨q37_11_1.b, q37_11_1.at_, q37_11_1.err⟩, ⟨q37_11_2.bad⟩) rfl rfl (by (try dsimp only); exact InM.out) (by (try dsimp only); exact EntO.out))
theorem state_reader_now_2_ct (a_0_b : Nat) (a_0 : StateNow) (a_1_b : Nat) (a_1__b : Nat) (a_1_ : StateReader) (a_1__dec_b : Nat) (a_1__dec : CodecDec) {r : Unit} (hS : Sh.state_reader_now_2 a_0.pl a_1_ a_1__dec.pl = some r) :
 Ct Tryz.prog 156 [ptr a_0_b 0, ptr a_1_b 0] (a_0.work.ok.and (a_0.index.ok.and (a_0.seq_doing.ok.and (a_0.seq_todo.ok.and (a_0.seq_index.ok.and (a_0.seq_work.ok.and ((MAl a_0.stash.l).and (a_1__dec.b.ok.and a_1__dec.err.ok)))))))) (Ow.star (Sv.own a_0.refs 113) (Ow.star (Sv.own a_0.stash 154) (Ow.star (Blk a_0_b (zStateNow a_0) 35) (Ow.star (Blk a_1__dec_b [a_1__dec.b.val, i64 a_1__dec.at_, a_1__dec.err.val] 218) (Ow.star (Blk a_1__b [ptr a_1__dec_b 0, .bool a_1_.bad] 160) (Blk a_1_b [ptr a_1__b 0] 156)))))) (X := Unit) (fun _ => .tuple #[]) (fun _ => True) (fun _ => Mo.tt) (fun _ => Ow.star (Blk a_0_b (zStateNow a_0) 35) (Ow.star (Sv.own a_0.refs 113) (Ow.star (Sv.own a_0.stash 154) (Ow.star (Blk a_1__dec_b [a_1__dec.b.val, i64 a_1__dec.at_, a_1__dec.err.val] 218) (Ow.star (Blk a_1__b [ptr a_1__dec_b 0, .bool a_1_.bad] 160) (Blk a_1_b [ptr a_1__b 0] 156)))))) := by
 refine Zo Tryz.func156 Tryz.ntmps156 fun c => ?_
 unfold Sh.state_reader_now_2 at hS
 cases hS
theorem state_reader_many_v5_ct (r_0_b : Nat) (r_0 : StateReader) (r_0_dec_b : Nat) (r_0_dec : CodecDec) (one_1_0_b : Nat) (one_1_0 : StateNow) (one_1_1_b : Nat) {r : CodecDecP × StateReader} (hS : Sh.state_reader_many_v5 r_0 r_0_dec.pl one_1_0.pl = some r) :
 Ct Tryz.prog 150 [ptr r_0_b 0, .func (.func 156) #[] #[ptr one_1_0_b 0, ptr one_1_1_b 0]] (r_0_dec.b.ok.and (r_0_dec.err.ok.and (one_1_0.work.ok.and (one_1_0.index.ok.and (one_1_0.seq_doing.ok.and (one_1_0.seq_todo.ok.and (one_1_0.seq_index.ok.and (one_1_0.seq_work.ok.and (MAl one_1_0.stash.l))))))))) (Ow.star (Blk r_0_dec_b [r_0_dec.b.val, i64 r_0_dec.at_, r_0_dec.err.val] 218) (Ow.star (Blk r_0_b [ptr r_0_dec_b 0, .bool r_0.bad] 160) (Ow.star (Sv.own one_1_0.refs 113) (Ow.star (Sv.own one_1_0.stash 154) (Ow.star (Blk one_1_0_b (zStateNow one_1_0) 35) (Blk one_1_1_b [ptr r_0_b 0] 156)))))) (X := CodecDec × StateReader) (fun x => .tuple #[]) (fun x => r = (x.1.pl, x.2)) (fun x => (x.1.b.ok.and x.1.err.ok)) (fun x => Ow.star (Blk r_0_dec_b [x.1.b.val, i64 x.1.at_, x.1.err.val] 218) (Ow.star (Blk r_0_b [ptr r_0_dec_b 0, .bool x.2.bad] 160) (Ow.star (Blk one_1_0_b (zStateNow one_1_0) 35) (Ow.star (Sv.own one_1_0.refs 113) (Ow.star (Sv.own one_1_0.stash 154) (Blk one_1_1_b [ptr r_0_b 0] 156)))))) := by
 refine Zo Tryz.func150 Tryz.ntmps150 fun c => ?_
 unfold Sh.state_reader_many_v5 at hS
 refine Zq (Zr ?_)
 refine Zm ?_
 refine Zu (q_nilCheck rfl) ?_
 refine Zu (q_field gfa160_0 rfl) ?_
 refine Zu (q_fe gone157 rfl rfl) ?_
 obtain ⟨y10_1, ey10_1, hS⟩ := bd_s hS
 refine VL.callO (codec_Dec_Int_ct r_0_dec_b r_0_dec ey10_1) rfl (by decide) ?_
 rintro ⟨q10_1_0, q10_1_1⟩ rfl
 try dsimp only
 refine Zy ?_
 refine VC.cutJ (S := Bool) (fun (c1_2 : Bool) => c1_2) (fun (c1_2 : Bool) => [(0, ptr r_0_b 0), (1, .func (.func 156) #[] #[ptr one_1_0_b 0, ptr one_1_1_b 0]), (4, i64 q10_1_0)]) (fun (c1_2 : Bool) => Mo.tt) (fun (c1_2 : Bool) => Ow.star (Blk r_0_dec_b [q10_1_1.b.val, i64 q10_1_1.at_, q10_1_1.err.val] 218) (Ow.star (Blk r_0_b [ptr r_0_dec_b 0, .bool c1_2] 160) (Ow.star (Blk one_1_0_b (zStateNow one_1_0) 35) (Ow.star (Blk one_1_1_b [ptr r_0_b 0] 156) (Ow.star (Sv.own one_1_0.refs 113) (Ow.star (Sv.own one_1_0.stash 154) (Ow.emp))))))) hS ?_ ?_
 ·
  clear hS
  intro k3 hS
  refine Zr ?_
  refine Zy ?_
  refine Zu (q_nilCheck rfl) ?_
  refine Zu (q_field gfa160_1 rfl) ?_
  refine Zu (q_fe gone4 rfl rfl) ?_
  refine Zm ?_
  refine Zspb 16 hS (fun h16 hS => ?_) (fun h16 hS => ?_)
  ·
   refine Zy ?_
   refine Zu (q_nilCheck rfl) ?_
   refine Zu (q_field gfa160_1 rfl) ?_
   refine Zv (vc := [.bool true]) (cs' := [ptr r_0_dec_b 0, .bool true]) rfl gsz4 ?_
   refine VL.mt true [0, 1, 4] (fun _ _ h => h) hS rfl
  refine Zg ?_
  refine Zh (q_lss rfl rfl) ?_
  refine Zf ?_
  refine Zu (q_nilCheck rfl) ?_
  refine Zu (q_field gfa160_1 rfl) ?_
  refine Zv (vc := [.bool (decide (q10_1_0 < 0))]) (cs' := [ptr r_0_dec_b 0, .bool (decide (q10_1_0 < 0))]) rfl gsz4 ?_
  refine VL.mt (decide (q10_1_0 < 0)) [0, 1, 4] (fun _ _ h => h) hS rfl
 clear hS
 rintro c1_2 hS
 refine Zq (Zr ?_)
 refine Zy ?_
 refine Zb ?_
 refine VC.iter (S := Int) (fun (i5_4 : Int) => i5_4) (fun (i5_4 : Int) => [(0, ptr r_0_b 0), (1, .func (.func 156) #[] #[ptr one_1_0_b 0, ptr one_1_1_b 0]), (4, i64 q10_1_0), (5, i64 i5_4)]) (fun (i5_4 : Int) => Mo.tt) (fun (i5_4 : Int) => Ow.star (Blk r_0_dec_b [q10_1_1.b.val, i64 q10_1_1.at_, q10_1_1.err.val] 218) (Ow.star (Blk r_0_b [ptr r_0_dec_b 0, .bool c1_2] 160) (Ow.star (Blk one_1_0_b (zStateNow one_1_0) 35) (Ow.star (Blk one_1_1_b [ptr r_0_b 0] 156) (Ow.star (Sv.own one_1_0.refs 113) (Ow.star (Sv.own one_1_0.stash 154) (Ow.emp))))))) 0 [0, 1, 4, 5] hS rfl ?_
 clear hS
 rintro i5_4 m1 y1 hS hK1
 refine Zq (Zq (Zr ?_))
 refine Zy ?_
 refine Zu (q_lss rfl rfl) ?_
 refine Zm ?_
 refine Zsp 25 hS (fun h25 hS => ?_) (fun h25 hS => ?_)
 ·
  refine Zg ?_
  refine Zh (q_nilCheck rfl) ?_
  refine Zh (q_field gfa160_0 rfl) ?_
  refine Zh (q_fe gone157 rfl rfl) ?_
  refine VL.guard rfl rfl ?_
  obtain ⟨y30_5, ey30_5, hS⟩ := bd_s hS
  refine VL.callO (codec_Dec_Err_ct r_0_dec_b q10_1_1 ey30_5) rfl (by decide) ?_
  rintro q30_5_0 rfl
  try dsimp only
  refine Zh (q_ereq Tryz.underlying45 rfl) ?_
  refine Zy ?_
  refine VC.keep (ρ' := [(0, ptr r_0_b 0), (1, .func (.func 156) #[] #[ptr one_1_0_b 0, ptr one_1_1_b 0]), (4, i64 q10_1_0), (5, i64 i5_4), (32, .bool (decide (q30_5_0.pl.isNil = true)))]) [0, 1, 4, 5, 32] rfl ?_
  refine Zc hS (fun h32 hS => ?_) (fun h32 hS => ?_)
  ·
   refine Zk ?_
   refine Zq (Zb (Zr ?_))
   refine Zm ?_
   obtain ⟨y36_6, ey36_6, hS⟩ := bd_s hS
   refine VL.callOV (vs := []) (caps := [ptr one_1_0_b 0, ptr one_1_1_b 0]) (state_reader_now_2_ct one_1_0_b one_1_0 one_1_1_b r_0_b (⟨c1_2⟩ : StateReader) r_0_dec_b q10_1_1 ey36_6) rfl rfl (by decide) ?_
   rintro _ _
   try dsimp only
   refine Zl ?_
   refine Zr ?_
   refine Zm ?_
   obtain ⟨b34, hS⟩ := gd_s hS
   refine Zu (q_add rfl rfl b34) ?_
   refine Za ?_
   refine VL.rnd (i5_4 + 1) [0, 1, 4, 5] (fun _ _ h => h) (go2 hS hK1) rfl
  replace hS := up2 hS hK1
  cases hS
  exact VC.exit (fin0 (.inl rfl) rfl (⟨q10_1_1.b, q10_1_1.at_, q10_1_1.err⟩, ⟨c1_2⟩) rfl rfl (by (try dsimp only); exact InM.out) (by (try dsimp only); exact EntO.out))
 refine VL.skips 6 [31] (by kernel_rfl) ?_
 refine Zy ?_
 refine VC.cond_f rfl ?_
 replace hS := up2 hS hK1
 cases hS
 exact VC.exit (fin0 (.inl rfl) rfl (⟨q10_1_1.b, q10_1_1.at_, q10_1_1.err⟩, ⟨c1_2⟩) rfl rfl (by (try dsimp only); exact InM.out) (by (try dsimp only); exact EntO.out))
theorem slices_Clip_names_Ref_names_Ref_ct (s_0 : Sv NamesRef) {r : List NamesRef} (hS : Sh.slices_Clip_names_Ref_names_Ref s_0.l = some r) :
 Ct Tryz.prog 157 [s_0.val] s_0.ok (Ow.emp) (X := Sv NamesRef) (fun x => x.val) (fun x => r = x.l) (fun x => x.ok) (fun x => Ow.emp) := by
 refine Zo Tryz.func157 Tryz.ntmps157 fun c => ?_
 unfold Sh.slices_Clip_names_Ref_names_Ref at hS
 refine Zq (Zr ?_)
 refine Zy ?_
 refine Zq (Zr ?_)
 refine Zy ?_
 refine Zu (q_ln (s := s_0) Tryz.underlying26 rfl) ?_
 refine Zm ?_
 refine Zu (q_ln (s := s_0) Tryz.underlying26 rfl) ?_
 obtain ⟨b8, hS⟩ := gd_s hS
 refine VL.stom Tryz.underlying26 gsz113 rfl rfl rfl b8.1 (b8.2) (by decide) fun s8_1 hs8_1 => ?_
 replace hS := lt_to hs8_1 hS
 refine Zy ?_
 cases hS
 exact VC.ret (fin1 (.inr rfl) rfl rfl s8_1 rfl rfl (by (try dsimp only); exact InM.out) (fun _ _ => trivial))
theorem slices_Clip_shelf_Stack_shelf_Shelf_ct (s_0 : Sv ShelfShelf) {r : List ShelfShelfP} (hS : Sh.slices_Clip_shelf_Stack_shelf_Shelf (s_0.l.map ShelfShelf.pl) = some r) :
 Ct Tryz.prog 158 [s_0.val] s_0.ok (Ow.emp) (X := Sv ShelfShelf) (fun x => x.val) (fun x => r = (x.l.map ShelfShelf.pl)) (fun x => x.ok) (fun x => Ow.emp) := by
 refine Zo Tryz.func158 Tryz.ntmps158 fun c => ?_
 unfold Sh.slices_Clip_shelf_Stack_shelf_Shelf at hS
 refine Zq (Zr ?_)
 refine Zy ?_
 refine Zq (Zr ?_)
 refine Zy ?_
 refine Zu (q_lnm ShelfShelf.pl (s := s_0) Tryz.underlying33 rfl) ?_
 refine Zm ?_
 refine Zu (q_lnm ShelfShelf.pl (s := s_0) Tryz.underlying33 rfl) ?_
 obtain ⟨b8, hS⟩ := gd_s hS
 refine VL.stom Tryz.underlying33 gsz154 rfl rfl rfl b8.1 (len_m b8.2) (by decide) fun s8_1 hs8_1 => ?_
 replace hS := lt_to ((congrArg (List.map ShelfShelf.pl) hs8_1).trans List.map_take) hS
 refine Zy ?_
 cases hS
 exact VC.ret (fin1 (.inr rfl) rfl rfl s8_1 rfl rfl (by (try dsimp only); exact InM.out) (fun _ _ => trivial))
theorem state_reader_now_ct (r_0_b : Nat) (r_0 : StateReader) (r_0_dec_b : Nat) (r_0_dec : CodecDec) {r : StateNowP × CodecDecP × StateReader} (hS : Sh.state_reader_now r_0 r_0_dec.pl = some r) :
 Ct Tryz.prog 79 [ptr r_0_b 0] (r_0_dec.b.ok.and r_0_dec.err.ok) (Ow.star (Blk r_0_dec_b [r_0_dec.b.val, i64 r_0_dec.at_, r_0_dec.err.val] 218) (Blk r_0_b [ptr r_0_dec_b 0, .bool r_0.bad] 160)) (X := StateNow × CodecDec × StateReader) (fun x => .agg (Dat.enc x.1).toArray) (fun x => r = (x.1.pl, x.2.1.pl, x.2.2)) (fun x => (x.1.m.and (x.2.1.b.ok.and x.2.1.err.ok))) (fun x => Ow.star (Blk r_0_dec_b [x.2.1.b.val, i64 x.2.1.at_, x.2.1.err.val] 218) (Blk r_0_b [ptr r_0_dec_b 0, .bool x.2.2.bad] 160)) := by
 refine Zo Tryz.func79 Tryz.ntmps79 fun c => ?_
 unfold Sh.state_reader_now at hS
 refine Zq (Zr ?_)
 refine VL.box (cs := [ptr r_0_b 0]) rfl rfl (by decide) fun b1_1 => ?_
 refine VL.alloc (cs := [.slice none 0 0, .slice none 0 0, .slice none 0 0, str [], i64 0, str [], i64 0, str [], .slice none 0 0, .slice none 0 0, i64 0, str [], str [], i64 0, .slice none 0 0, .slice none 0 0, .slice none 0 0]) (by kernel_rfl) (by decide) fun b2_2 => ?_
 refine Zl ?_
 refine Zq ?_
 refine VC.drawG (n := 5) (listed := #[true, false, true, false, false, false, false]) [(0, true), (2, true)] mixed (by kernel_rfl) (by kernel_rfl) (by kernel_rfl) (by kernel_rfl) ?_
 refine VD.q rfl (q_fe gone156 rfl rfl) (by decide) ?_
 refine VD.q rfl (q_fe gone156 rfl rfl) (by decide) ?_
 obtain ⟨y5_3, ey5_3, hS⟩ := bd_s hS
 obtain ⟨y7_4, ey7_4, hS⟩ := bd_s hS
 refine VD.toG fun hcl => ?_
 refine VG.fork (l := [1, 5]) (n := 4) (by kernel_rfl) rfl fun i hi => ?_
 obtain rfl | rfl : i = 1 ∨ i = 5 := by simpa using hi
 ·
  refine VGo.of rfl ?_
  refine VL.callO (state_reader_row_ct r_0_b r_0 r_0_dec_b r_0_dec ey5_3) rfl (by decide) ?_
  rintro ⟨q5_7011_0, q5_7011_1, q5_7011_2⟩ rfl
  try dsimp only
  refine VL.backX (D' := [(2, ptr r_0_b 0)]) (listed' := #[true, true, true, false, false, false, false]) (Pend.cons rfl (q_fe gone156 rfl rfl) (Pend.nil)) (by kernel_rfl) (by kernel_rfl) ?_
  refine VG.fork (l := [3, 5]) (n := 3) (by kernel_rfl) rfl fun i hi => ?_
  obtain rfl | rfl : i = 3 ∨ i = 5 := by simpa using hi
  ·
   refine VGo.of rfl ?_
   refine VL.callO (state_reader_entries_ct r_0_b q5_7011_2 r_0_dec_b q5_7011_1 ey7_4) rfl (by decide) ?_
   rintro ⟨q7_7031_0, q7_7031_1, q7_7031_2⟩ rfl
   try dsimp only
   refine VL.backX (D' := []) (listed' := #[true, true, true, true, false, false, false]) (Pend.nil) (by kernel_rfl) (by kernel_rfl) ?_
   refine VG.ord [(4, true), (5, false), (6, false)] (by kernel_rfl) (closed_of (by kernel_rfl)) (by kernel_rfl) ?_
   refine Zw rfl (q_build (vs := [(0, q5_7011_0.val), (1, q7_7031_0.val)]) (cs := #[q5_7011_0.val, q7_7031_0.val, .slice none 0 0, str [], i64 0, str [], i64 0, str [], .slice none 0 0, .slice none 0 0, i64 0, str [], str [], i64 0, .slice none 0 0, .slice none 0 0, .slice none 0 0]) rfl (by kernel_rfl)) ?_
   refine VD.one rfl ?_
   refine VL.alloc (cs := [.slice none 0 0, .slice none 0 0, .slice none 0 0, str [], i64 0, str [], i64 0, str [], .slice none 0 0, .slice none 0 0, i64 0, str [], str [], i64 0, .slice none 0 0, .slice none 0 0, .slice none 0 0]) (by kernel_rfl) (by decide) fun b3_7051 => ?_
   refine VL.back (D' := [(4, .agg #[q5_7011_0.val, q7_7031_0.val, .slice none 0 0, str [], i64 0, str [], i64 0, str [], .slice none 0 0, .slice none 0 0, i64 0, str [], str [], i64 0, .slice none 0 0, .slice none 0 0, .slice none 0 0])]) (by kernel_rfl) (Pend.cons rfl (q_build (vs := [(0, q5_7011_0.val), (1, q7_7031_0.val)]) (cs := #[q5_7011_0.val, q7_7031_0.val, .slice none 0 0, str [], i64 0, str [], i64 0, str [], .slice none 0 0, .slice none 0 0, i64 0, str [], str [], i64 0, .slice none 0 0, .slice none 0 0, .slice none 0 0]) rfl (by kernel_rfl)) (Pend.nil)) ?_
   refine VD.one rfl ?_
   refine Zv (vc := [q5_7011_0.val, q7_7031_0.val, .slice none 0 0, str [], i64 0, str [], i64 0, str [], .slice none 0 0, .slice none 0 0, i64 0, str [], str [], i64 0, .slice none 0 0, .slice none 0 0, .slice none 0 0]) (cs' := [q5_7011_0.val, q7_7031_0.val, .slice none 0 0, str [], i64 0, str [], i64 0, str [], .slice none 0 0, .slice none 0 0, i64 0, str [], str [], i64 0, .slice none 0 0, .slice none 0 0, .slice none 0 0]) rfl gsz35 ?_
   refine VL.back (D' := []) (by kernel_rfl) (Pend.nil) ?_
   refine VD.to (fun _ _ h => h) ?_
   refine Zq (Zr ?_)
   refine Zu (q_fe gone156 rfl rfl) ?_
   refine Zu (q_mkfn rfl) ?_
   refine VL.nilO (⟨none, 0, []⟩ : Sv NamesRef) 113 ⟨rfl, rfl⟩ ?_
   refine VL.nilO (⟨none, 0, []⟩ : Sv ShelfShelf) 154 ⟨rfl, rfl⟩ ?_
   refine VL.maNil (s := (⟨none, 0, []⟩ : Sv ShelfShelf)) rfl ?_
   refine VL.reB b3_7051 (cs' := [q5_7011_0.val, q7_7031_0.val, (⟨none, 0, []⟩ : Sv NamesRef).val, str [], i64 0, str [], i64 0, str [], (⟨none, 0, []⟩ : Sv TodoStep).val, (⟨none, 0, []⟩ : Sv TodoStep).val, i64 0, str [], str [], i64 0, (⟨none, 0, []⟩ : Sv IndexEntry).val, (⟨none, 0, []⟩ : Sv FilesFile).val, (⟨none, 0, []⟩ : Sv ShelfShelf).val]) rfl ?_
   obtain ⟨y11_5, ey11_5, hS⟩ := bd_s hS
   refine VL.callO (state_reader_many_v3_ct r_0_b q7_7031_2 r_0_dec_b q7_7031_1 b3_7051 (⟨q5_7011_0, q7_7031_0, (⟨none, 0, []⟩ : Sv NamesRef), [], 0, [], 0, [], (⟨none, 0, []⟩ : Sv TodoStep), (⟨none, 0, []⟩ : Sv TodoStep), 0, [], [], 0, (⟨none, 0, []⟩ : Sv IndexEntry), (⟨none, 0, []⟩ : Sv FilesFile), (⟨none, 0, []⟩ : Sv ShelfShelf)⟩ : StateNow) b1_1 ey11_5) rfl (by decide) ?_
   rintro ⟨q11_5_0, q11_5_1, q11_5_2⟩ rfl
   try dsimp only
   refine Zl ?_
   refine VC.keep (ρ' := [(1, ptr b1_1 0), (2, ptr b2_2 0), (3, ptr b3_7051 0)]) [1, 2, 3] rfl ?_
   refine Zq ?_
   refine VC.draw [(0, true), (2, true), (1, false), (4, true), (3, false), (5, false), (6, true), (7, false)] mixed (by kernel_rfl) (by kernel_rfl) (by kernel_rfl) ?_
   refine Zw rfl (q_fe gone156 rfl rfl) ?_
   refine Zw rfl (q_fe gone156 rfl rfl) ?_
   refine VD.one rfl ?_
   obtain ⟨y13_6, ey13_6, hS⟩ := bd_s hS
   refine VL.callO (state_reader_head_ct r_0_b q11_5_1 r_0_dec_b q11_5_0 ey13_6) rfl (by decide) ?_
   rintro ⟨q13_6_0, q13_6_1⟩ rfl
   try dsimp only
   refine VL.back (D' := [(2, ptr r_0_b 0)]) (by kernel_rfl) (Pend.cons rfl (q_fe gone156 rfl rfl) (Pend.nil)) ?_
   refine Zw rfl (q_field gfa35_3 rfl) ?_
   refine VD.one rfl ?_
   obtain ⟨y15_7, ey15_7, hS⟩ := bd_s hS
   refine VL.callO (state_reader_seq_ct r_0_b q11_5_1 r_0_dec_b q13_6_1 ey15_7) rfl (by decide) ?_
   rintro ⟨q15_7_0, q15_7_1, q15_7_2⟩ rfl
   try dsimp only
   refine VL.back (D' := [(4, ptr b3_7051 3)]) (by kernel_rfl) (Pend.cons rfl (q_field gfa35_3 rfl) (Pend.nil)) ?_
   refine VD.one rfl ?_
   refine Zv (vc := [str q13_6_0.branch, i64 q13_6_0.commit]) (cs' := [q11_5_2.work.val, q11_5_2.index.val, q11_5_2.refs.val, str q13_6_0.branch, i64 q13_6_0.commit, str q11_5_2.seq_kind, i64 q11_5_2.seq_other, str q11_5_2.seq_text, q11_5_2.seq_doing.val, q11_5_2.seq_todo.val, i64 q11_5_2.seq_made, str q11_5_2.seq_branch, str q11_5_2.seq_head_branch, i64 q11_5_2.seq_head_commit, q11_5_2.seq_index.val, q11_5_2.seq_work.val, q11_5_2.stash.val]) rfl gsz28 ?_
   refine VL.back (D' := []) (by kernel_rfl) (Pend.nil) ?_
   refine Zw rfl (q_field gfa35_4 rfl) ?_
   refine VD.one rfl ?_
   refine Zv (vc := (zStateSeq q15_7_0)) (cs' := [q11_5_2.work.val, q11_5_2.index.val, q11_5_2.refs.val, str q13_6_0.branch, i64 q13_6_0.commit, str q15_7_0.kind, i64 q15_7_0.other, str q15_7_0.text, q15_7_0.doing.val, q15_7_0.todo.val, i64 q15_7_0.made, str q15_7_0.branch, str q15_7_0.head_branch, i64 q15_7_0.head_commit, q15_7_0.index.val, q15_7_0.work.val, q11_5_2.stash.val]) rfl gsz31 ?_
   refine VL.back (D' := []) (by kernel_rfl) (Pend.nil) ?_
   refine VD.to (fun _ _ h => h) ?_
   refine Zq (Zr ?_)
   refine Zu (q_fe gone156 rfl rfl) ?_
   refine Zu (q_mkfn rfl) ?_
   obtain ⟨y20_8, ey20_8, hS⟩ := bd_s hS
   refine VL.callO (state_reader_many_v5_ct r_0_b q15_7_2 r_0_dec_b q15_7_1 b3_7051 (⟨q11_5_2.work, q11_5_2.index, q11_5_2.refs, q13_6_0.branch, q13_6_0.commit, q15_7_0.kind, q15_7_0.other, q15_7_0.text, q15_7_0.doing, q15_7_0.todo, q15_7_0.made, q15_7_0.branch, q15_7_0.head_branch, q15_7_0.head_commit, q15_7_0.index, q15_7_0.work, q11_5_2.stash⟩ : StateNow) b1_1 ey20_8) rfl (by decide) ?_
   rintro ⟨q20_8_0, q20_8_1⟩ rfl
   try dsimp only
   refine Zl ?_
   refine VC.keep (ρ' := [(2, ptr b2_2 0), (3, ptr b3_7051 0)]) [2, 3] rfl ?_
   refine Zq ?_
   refine VC.draw [(0, true), (1, true), (3, true), (4, true), (2, false), (6, true), (5, false), (7, false), (8, true), (9, false)] mixed (by kernel_rfl) (by kernel_rfl) (by kernel_rfl) ?_
   refine Zw rfl (q_field gfa35_2 rfl) ?_
   refine Zw rfl (q_fe gone26 rfl rfl) ?_
   refine Zw rfl (q_field gfa35_5 rfl) ?_
   refine Zw rfl (q_fe gone33 rfl rfl) ?_
   refine VD.one rfl ?_
   refine VL.shut q11_5_2.refs 113 (fun _ _ _ _ => trivial) ?_
   obtain ⟨y23_9, ey23_9, hS⟩ := bd_s hS
   refine VL.callF (slices_Clip_names_Ref_names_Ref_ct q11_5_2.refs ey23_9) rfl (by decide) ?_
   rintro q23_9_0 rfl
   try dsimp only
   refine VL.back (D' := [(4, q11_5_2.stash.val), (3, ptr b3_7051 16)]) (by kernel_rfl) (Pend.cons rfl (q_fe gone33 rfl rfl) (Pend.cons rfl (q_field gfa35_5 rfl) (Pend.nil))) ?_
   refine Zw rfl (q_field gfa35_2 rfl) ?_
   refine VD.one rfl ?_
   refine VL.shut q11_5_2.stash 154 (fun h m => InM.out (X := MAl q11_5_2.stash.l) h m) ?_
   obtain ⟨y26_10, ey26_10, hS⟩ := bd_s hS
   refine VL.callF (slices_Clip_shelf_Stack_shelf_Shelf_ct q11_5_2.stash ey26_10) rfl (by decide) ?_
   rintro q26_10_0 rfl
   try dsimp only
   refine VL.back (D' := [(6, ptr b3_7051 2)]) (by kernel_rfl) (Pend.cons rfl (q_field gfa35_2 rfl) (Pend.nil)) ?_
   refine VD.one rfl ?_
   refine Zv (vc := [q23_9_0.val]) (cs' := [q11_5_2.work.val, q11_5_2.index.val, q23_9_0.val, str q13_6_0.branch, i64 q13_6_0.commit, str q15_7_0.kind, i64 q15_7_0.other, str q15_7_0.text, q15_7_0.doing.val, q15_7_0.todo.val, i64 q15_7_0.made, str q15_7_0.branch, str q15_7_0.head_branch, i64 q15_7_0.head_commit, q15_7_0.index.val, q15_7_0.work.val, q11_5_2.stash.val]) rfl gsz26 ?_
   refine VL.back (D' := []) (by kernel_rfl) (Pend.nil) ?_
   refine Zw rfl (q_field gfa35_5 rfl) ?_
   refine VD.one rfl ?_
   refine Zv (vc := [q26_10_0.val]) (cs' := [q11_5_2.work.val, q11_5_2.index.val, q23_9_0.val, str q13_6_0.branch, i64 q13_6_0.commit, str q15_7_0.kind, i64 q15_7_0.other, str q15_7_0.text, q15_7_0.doing.val, q15_7_0.todo.val, i64 q15_7_0.made, str q15_7_0.branch, str q15_7_0.head_branch, i64 q15_7_0.head_commit, q15_7_0.index.val, q15_7_0.work.val, q26_10_0.val]) rfl gsz33 ?_
   refine VL.back (D' := []) (by kernel_rfl) (Pend.nil) ?_
   refine VD.to (fun _ _ h => h) ?_
   refine Zq (Zr ?_)
   refine Zu (q_fes gagg35 rfl rfl) ?_
   refine Zv (vc := [q11_5_2.work.val, q11_5_2.index.val, q23_9_0.val, str q13_6_0.branch, i64 q13_6_0.commit, str q15_7_0.kind, i64 q15_7_0.other, str q15_7_0.text, q15_7_0.doing.val, q15_7_0.todo.val, i64 q15_7_0.made, str q15_7_0.branch, str q15_7_0.head_branch, i64 q15_7_0.head_commit, q15_7_0.index.val, q15_7_0.work.val, q26_10_0.val]) (cs' := [q11_5_2.work.val, q11_5_2.index.val, q23_9_0.val, str q13_6_0.branch, i64 q13_6_0.commit, str q15_7_0.kind, i64 q15_7_0.other, str q15_7_0.text, q15_7_0.doing.val, q15_7_0.todo.val, i64 q15_7_0.made, str q15_7_0.branch, str q15_7_0.head_branch, i64 q15_7_0.head_commit, q15_7_0.index.val, q15_7_0.work.val, q26_10_0.val]) rfl gsz35 ?_
   refine Zl ?_
   refine VC.keep (ρ' := [(2, ptr b2_2 0)]) [2] rfl ?_
   cases hS
   exact VC.ret (finG (vs := [.agg #[q11_5_2.work.val, q11_5_2.index.val, q23_9_0.val, str q13_6_0.branch, i64 q13_6_0.commit, str q15_7_0.kind, i64 q15_7_0.other, str q15_7_0.text, q15_7_0.doing.val, q15_7_0.todo.val, i64 q15_7_0.made, str q15_7_0.branch, str q15_7_0.head_branch, i64 q15_7_0.head_commit, q15_7_0.index.val, q15_7_0.work.val, q26_10_0.val]]) (.inr rfl) rfl (RVs.cell gagg35 rfl rfl Rd.blk (RVs.nil)) (⟨q11_5_2.work, q11_5_2.index, q23_9_0, q13_6_0.branch, q13_6_0.commit, q15_7_0.kind, q15_7_0.other, q15_7_0.text, q15_7_0.doing, q15_7_0.todo, q15_7_0.made, q15_7_0.branch, q15_7_0.head_branch, q15_7_0.head_commit, q15_7_0.index, q15_7_0.work, q26_10_0⟩, ⟨q20_8_0.b, q20_8_0.at_, q20_8_0.err⟩, ⟨q20_8_1.bad⟩) rfl rfl (by (try dsimp only); exact InM.out) (by (try dsimp only); exact EntO.out))
  refine VGo.of rfl ?_
  refine VL.alloc (cs := [.slice none 0 0, .slice none 0 0, .slice none 0 0, str [], i64 0, str [], i64 0, str [], .slice none 0 0, .slice none 0 0, i64 0, str [], str [], i64 0, .slice none 0 0, .slice none 0 0, .slice none 0 0]) (by kernel_rfl) (by decide) fun b3_7051 => ?_
  refine VL.backX (D' := [(2, ptr r_0_b 0)]) (listed' := #[true, true, true, false, false, true, false]) (Pend.cons rfl (q_fe gone156 rfl rfl) (Pend.nil)) (by kernel_rfl) (by kernel_rfl) ?_
  refine VG.ord [(3, false), (4, true), (6, false)] (by kernel_rfl) (closed_of (by kernel_rfl)) (by kernel_rfl) ?_
  refine VD.one rfl ?_
  refine VL.callO (state_reader_entries_ct r_0_b q5_7011_2 r_0_dec_b q5_7011_1 ey7_4) rfl (by decide) ?_
  rintro ⟨q7_7031_0, q7_7031_1, q7_7031_2⟩ rfl
  try dsimp only
  refine VL.back (D' := []) (by kernel_rfl) (Pend.nil) ?_
  refine Zw rfl (q_build (vs := [(0, q5_7011_0.val), (1, q7_7031_0.val)]) (cs := #[q5_7011_0.val, q7_7031_0.val, .slice none 0 0, str [], i64 0, str [], i64 0, str [], .slice none 0 0, .slice none 0 0, i64 0, str [], str [], i64 0, .slice none 0 0, .slice none 0 0, .slice none 0 0]) rfl (by kernel_rfl)) ?_
  refine VD.one rfl ?_
  refine Zv (vc := [q5_7011_0.val, q7_7031_0.val, .slice none 0 0, str [], i64 0, str [], i64 0, str [], .slice none 0 0, .slice none 0 0, i64 0, str [], str [], i64 0, .slice none 0 0, .slice none 0 0, .slice none 0 0]) (cs' := [q5_7011_0.val, q7_7031_0.val, .slice none 0 0, str [], i64 0, str [], i64 0, str [], .slice none 0 0, .slice none 0 0, i64 0, str [], str [], i64 0, .slice none 0 0, .slice none 0 0, .slice none 0 0]) rfl gsz35 ?_
  refine VL.back (D' := []) (by kernel_rfl) (Pend.nil) ?_
  refine VD.to (fun _ _ h => h) ?_
  refine Zq (Zr ?_)
  refine Zu (q_fe gone156 rfl rfl) ?_
  refine Zu (q_mkfn rfl) ?_
  refine VL.nilO (⟨none, 0, []⟩ : Sv NamesRef) 113 ⟨rfl, rfl⟩ ?_
  refine VL.nilO (⟨none, 0, []⟩ : Sv ShelfShelf) 154 ⟨rfl, rfl⟩ ?_
  refine VL.maNil (s := (⟨none, 0, []⟩ : Sv ShelfShelf)) rfl ?_
  refine VL.reB b3_7051 (cs' := [q5_7011_0.val, q7_7031_0.val, (⟨none, 0, []⟩ : Sv NamesRef).val, str [], i64 0, str [], i64 0, str [], (⟨none, 0, []⟩ : Sv TodoStep).val, (⟨none, 0, []⟩ : Sv TodoStep).val, i64 0, str [], str [], i64 0, (⟨none, 0, []⟩ : Sv IndexEntry).val, (⟨none, 0, []⟩ : Sv FilesFile).val, (⟨none, 0, []⟩ : Sv ShelfShelf).val]) rfl ?_
  obtain ⟨y11_5, ey11_5, hS⟩ := bd_s hS
  refine VL.callO (state_reader_many_v3_ct r_0_b q7_7031_2 r_0_dec_b q7_7031_1 b3_7051 (⟨q5_7011_0, q7_7031_0, (⟨none, 0, []⟩ : Sv NamesRef), [], 0, [], 0, [], (⟨none, 0, []⟩ : Sv TodoStep), (⟨none, 0, []⟩ : Sv TodoStep), 0, [], [], 0, (⟨none, 0, []⟩ : Sv IndexEntry), (⟨none, 0, []⟩ : Sv FilesFile), (⟨none, 0, []⟩ : Sv ShelfShelf)⟩ : StateNow) b1_1 ey11_5) rfl (by decide) ?_
  rintro ⟨q11_5_0, q11_5_1, q11_5_2⟩ rfl
  try dsimp only
  refine Zl ?_
  refine VC.keep (ρ' := [(1, ptr b1_1 0), (2, ptr b2_2 0), (3, ptr b3_7051 0)]) [1, 2, 3] rfl ?_
  refine Zq ?_
  refine VC.draw [(0, true), (2, true), (1, false), (4, true), (3, false), (5, false), (6, true), (7, false)] mixed (by kernel_rfl) (by kernel_rfl) (by kernel_rfl) ?_
  refine Zw rfl (q_fe gone156 rfl rfl) ?_
  refine Zw rfl (q_fe gone156 rfl rfl) ?_
  refine VD.one rfl ?_
  obtain ⟨y13_6, ey13_6, hS⟩ := bd_s hS
  refine VL.callO (state_reader_head_ct r_0_b q11_5_1 r_0_dec_b q11_5_0 ey13_6) rfl (by decide) ?_
  rintro ⟨q13_6_0, q13_6_1⟩ rfl
  try dsimp only
  refine VL.back (D' := [(2, ptr r_0_b 0)]) (by kernel_rfl) (Pend.cons rfl (q_fe gone156 rfl rfl) (Pend.nil)) ?_
  refine Zw rfl (q_field gfa35_3 rfl) ?_
  refine VD.one rfl ?_
  obtain ⟨y15_7, ey15_7, hS⟩ := bd_s hS
  refine VL.callO (state_reader_seq_ct r_0_b q11_5_1 r_0_dec_b q13_6_1 ey15_7) rfl (by decide) ?_
  rintro ⟨q15_7_0, q15_7_1, q15_7_2⟩ rfl
  try dsimp only
  refine VL.back (D' := [(4, ptr b3_7051 3)]) (by kernel_rfl) (Pend.cons rfl (q_field gfa35_3 rfl) (Pend.nil)) ?_
  refine VD.one rfl ?_
  refine Zv (vc := [str q13_6_0.branch, i64 q13_6_0.commit]) (cs' := [q11_5_2.work.val, q11_5_2.index.val, q11_5_2.refs.val, str q13_6_0.branch, i64 q13_6_0.commit, str q11_5_2.seq_kind, i64 q11_5_2.seq_other, str q11_5_2.seq_text, q11_5_2.seq_doing.val, q11_5_2.seq_todo.val, i64 q11_5_2.seq_made, str q11_5_2.seq_branch, str q11_5_2.seq_head_branch, i64 q11_5_2.seq_head_commit, q11_5_2.seq_index.val, q11_5_2.seq_work.val, q11_5_2.stash.val]) rfl gsz28 ?_
  refine VL.back (D' := []) (by kernel_rfl) (Pend.nil) ?_
  refine Zw rfl (q_field gfa35_4 rfl) ?_
  refine VD.one rfl ?_
  refine Zv (vc := (zStateSeq q15_7_0)) (cs' := [q11_5_2.work.val, q11_5_2.index.val, q11_5_2.refs.val, str q13_6_0.branch, i64 q13_6_0.commit, str q15_7_0.kind, i64 q15_7_0.other, str q15_7_0.text, q15_7_0.doing.val, q15_7_0.todo.val, i64 q15_7_0.made, str q15_7_0.branch, str q15_7_0.head_branch, i64 q15_7_0.head_commit, q15_7_0.index.val, q15_7_0.work.val, q11_5_2.stash.val]) rfl gsz31 ?_
  refine VL.back (D' := []) (by kernel_rfl) (Pend.nil) ?_
  refine VD.to (fun _ _ h => h) ?_
  refine Zq (Zr ?_)
  refine Zu (q_fe gone156 rfl rfl) ?_
  refine Zu (q_mkfn rfl) ?_
  obtain ⟨y20_8, ey20_8, hS⟩ := bd_s hS
  refine VL.callO (state_reader_many_v5_ct r_0_b q15_7_2 r_0_dec_b q15_7_1 b3_7051 (⟨q11_5_2.work, q11_5_2.index, q11_5_2.refs, q13_6_0.branch, q13_6_0.commit, q15_7_0.kind, q15_7_0.other, q15_7_0.text, q15_7_0.doing, q15_7_0.todo, q15_7_0.made, q15_7_0.branch, q15_7_0.head_branch, q15_7_0.head_commit, q15_7_0.index, q15_7_0.work, q11_5_2.stash⟩ : StateNow) b1_1 ey20_8) rfl (by decide) ?_
  rintro ⟨q20_8_0, q20_8_1⟩ rfl
  try dsimp only
  refine Zl ?_
  refine VC.keep (ρ' := [(2, ptr b2_2 0), (3, ptr b3_7051 0)]) [2, 3] rfl ?_
  refine Zq ?_
  refine VC.draw [(0, true), (1, true), (3, true), (4, true), (2, false), (6, true), (5, false), (7, false), (8, true), (9, false)] mixed (by kernel_rfl) (by kernel_rfl) (by kernel_rfl) ?_
  refine Zw rfl (q_field gfa35_2 rfl) ?_
  refine Zw rfl (q_fe gone26 rfl rfl) ?_
  refine Zw rfl (q_field gfa35_5 rfl) ?_
  refine Zw rfl (q_fe gone33 rfl rfl) ?_
  refine VD.one rfl ?_
  refine VL.shut q11_5_2.refs 113 (fun _ _ _ _ => trivial) ?_
  obtain ⟨y23_9, ey23_9, hS⟩ := bd_s hS
  refine VL.callF (slices_Clip_names_Ref_names_Ref_ct q11_5_2.refs ey23_9) rfl (by decide) ?_
  rintro q23_9_0 rfl
  try dsimp only
  refine VL.back (D' := [(4, q11_5_2.stash.val), (3, ptr b3_7051 16)]) (by kernel_rfl) (Pend.cons rfl (q_fe gone33 rfl rfl) (Pend.cons rfl (q_field gfa35_5 rfl) (Pend.nil))) ?_
  refine Zw rfl (q_field gfa35_2 rfl) ?_
  refine VD.one rfl ?_
  refine VL.shut q11_5_2.stash 154 (fun h m => InM.out (X := MAl q11_5_2.stash.l) h m) ?_
  obtain ⟨y26_10, ey26_10, hS⟩ := bd_s hS
  refine VL.callF (slices_Clip_shelf_Stack_shelf_Shelf_ct q11_5_2.stash ey26_10) rfl (by decide) ?_
  rintro q26_10_0 rfl
  try dsimp only
  refine VL.back (D' := [(6, ptr b3_7051 2)]) (by kernel_rfl) (Pend.cons rfl (q_field gfa35_2 rfl) (Pend.nil)) ?_
  refine VD.one rfl ?_
  refine Zv (vc := [q23_9_0.val]) (cs' := [q11_5_2.work.val, q11_5_2.index.val, q23_9_0.val, str q13_6_0.branch, i64 q13_6_0.commit, str q15_7_0.kind, i64 q15_7_0.other, str q15_7_0.text, q15_7_0.doing.val, q15_7_0.todo.val, i64 q15_7_0.made, str q15_7_0.branch, str q15_7_0.head_branch, i64 q15_7_0.head_commit, q15_7_0.index.val, q15_7_0.work.val, q11_5_2.stash.val]) rfl gsz26 ?_
  refine VL.back (D' := []) (by kernel_rfl) (Pend.nil) ?_
  refine Zw rfl (q_field gfa35_5 rfl) ?_
  refine VD.one rfl ?_
  refine Zv (vc := [q26_10_0.val]) (cs' := [q11_5_2.work.val, q11_5_2.index.val, q23_9_0.val, str q13_6_0.branch, i64 q13_6_0.commit, str q15_7_0.kind, i64 q15_7_0.other, str q15_7_0.text, q15_7_0.doing.val, q15_7_0.todo.val, i64 q15_7_0.made, str q15_7_0.branch, str q15_7_0.head_branch, i64 q15_7_0.head_commit, q15_7_0.index.val, q15_7_0.work.val, q26_10_0.val]) rfl gsz33 ?_
  refine VL.back (D' := []) (by kernel_rfl) (Pend.nil) ?_
  refine VD.to (fun _ _ h => h) ?_
  refine Zq (Zr ?_)
  refine Zu (q_fes gagg35 rfl rfl) ?_
  refine Zv (vc := [q11_5_2.work.val, q11_5_2.index.val, q23_9_0.val, str q13_6_0.branch, i64 q13_6_0.commit, str q15_7_0.kind, i64 q15_7_0.other, str q15_7_0.text, q15_7_0.doing.val, q15_7_0.todo.val, i64 q15_7_0.made, str q15_7_0.branch, str q15_7_0.head_branch, i64 q15_7_0.head_commit, q15_7_0.index.val, q15_7_0.work.val, q26_10_0.val]) (cs' := [q11_5_2.work.val, q11_5_2.index.val, q23_9_0.val, str q13_6_0.branch, i64 q13_6_0.commit, str q15_7_0.kind, i64 q15_7_0.other, str q15_7_0.text, q15_7_0.doing.val, q15_7_0.todo.val, i64 q15_7_0.made, str q15_7_0.branch, str q15_7_0.head_branch, i64 q15_7_0.head_commit, q15_7_0.index.val, q15_7_0.work.val, q26_10_0.val]) rfl gsz35 ?_
  refine Zl ?_
  refine VC.keep (ρ' := [(2, ptr b2_2 0)]) [2] rfl ?_
  cases hS
  exact VC.ret (finG (vs := [.agg #[q11_5_2.work.val, q11_5_2.index.val, q23_9_0.val, str q13_6_0.branch, i64 q13_6_0.commit, str q15_7_0.kind, i64 q15_7_0.other, str q15_7_0.text, q15_7_0.doing.val, q15_7_0.todo.val, i64 q15_7_0.made, str q15_7_0.branch, str q15_7_0.head_branch, i64 q15_7_0.head_commit, q15_7_0.index.val, q15_7_0.work.val, q26_10_0.val]]) (.inr rfl) rfl (RVs.cell gagg35 rfl rfl Rd.blk (RVs.nil)) (⟨q11_5_2.work, q11_5_2.index, q23_9_0, q13_6_0.branch, q13_6_0.commit, q15_7_0.kind, q15_7_0.other, q15_7_0.text, q15_7_0.doing, q15_7_0.todo, q15_7_0.made, q15_7_0.branch, q15_7_0.head_branch, q15_7_0.head_commit, q15_7_0.index, q15_7_0.work, q26_10_0⟩, ⟨q20_8_0.b, q20_8_0.at_, q20_8_0.err⟩, ⟨q20_8_1.bad⟩) rfl rfl (by (try dsimp only); exact InM.out) (by (try dsimp only); exact EntO.out))
 refine VGo.of rfl ?_
 refine VL.alloc (cs := [.slice none 0 0, .slice none 0 0, .slice none 0 0, str [], i64 0, str [], i64 0, str [], .slice none 0 0, .slice none 0 0, i64 0, str [], str [], i64 0, .slice none 0 0, .slice none 0 0, .slice none 0 0]) (by kernel_rfl) (by decide) fun b3_7051 => ?_
 refine VL.backX (D' := [(2, ptr r_0_b 0), (0, ptr r_0_b 0)]) (listed' := #[true, false, true, false, false, true, false]) (Pend.cons rfl (q_fe gone156 rfl rfl) (Pend.cons rfl (q_fe gone156 rfl rfl) (Pend.nil))) (by kernel_rfl) (by kernel_rfl) ?_
 refine VG.ord [(1, false), (3, false), (4, true), (6, false)] (by kernel_rfl) (closed_of (by kernel_rfl)) (by kernel_rfl) ?_
 refine VD.one rfl ?_
 refine VL.callO (state_reader_row_ct r_0_b r_0 r_0_dec_b r_0_dec ey5_3) rfl (by decide) ?_
 rintro ⟨q5_7011_0, q5_7011_1, q5_7011_2⟩ rfl
 try dsimp only
 refine VL.back (D' := [(2, ptr r_0_b 0)]) (by kernel_rfl) (Pend.cons rfl (q_fe gone156 rfl rfl) (Pend.nil)) ?_
 refine VD.one rfl ?_
 refine VL.callO (state_reader_entries_ct r_0_b q5_7011_2 r_0_dec_b q5_7011_1 ey7_4) rfl (by decide) ?_
 rintro ⟨q7_7031_0, q7_7031_1, q7_7031_2⟩ rfl
 try dsimp only
 refine VL.back (D' := []) (by kernel_rfl) (Pend.nil) ?_
 refine Zw rfl (q_build (vs := [(0, q5_7011_0.val), (1, q7_7031_0.val)]) (cs := #[q5_7011_0.val, q7_7031_0.val, .slice none 0 0, str [], i64 0, str [], i64 0, str [], .slice none 0 0, .slice none 0 0, i64 0, str [], str [], i64 0, .slice none 0 0, .slice none 0 0, .slice none 0 0]) rfl (by kernel_rfl)) ?_
 refine VD.one rfl ?_
 refine Zv (vc := [q5_7011_0.val, q7_7031_0.val, .slice none 0 0, str [], i64 0, str [], i64 0, str [], .slice none 0 0, .slice none 0 0, i64 0, str [], str [], i64 0, .slice none 0 0, .slice none 0 0, .slice none 0 0]) (cs' := [q5_7011_0.val, q7_7031_0.val, .slice none 0 0, str [], i64 0, str [], i64 0, str [], .slice none 0 0, .slice none 0 0, i64 0, str [], str [], i64 0, .slice none 0 0, .slice none 0 0, .slice none 0 0]) rfl gsz35 ?_
 refine VL.back (D' := []) (by kernel_rfl) (Pend.nil) ?_
 refine VD.to (fun _ _ h => h) ?_
 refine Zq (Zr ?_)
 refine Zu (q_fe gone156 rfl rfl) ?_
 refine Zu (q_mkfn rfl) ?_
 refine VL.nilO (⟨none, 0, []⟩ : Sv NamesRef) 113 ⟨rfl, rfl⟩ ?_
 refine VL.nilO (⟨none, 0, []⟩ : Sv ShelfShelf) 154 ⟨rfl, rfl⟩ ?_
 refine VL.maNil (s := (⟨none, 0, []⟩ : Sv ShelfShelf)) rfl ?_
 refine VL.reB b3_7051 (cs' := [q5_7011_0.val, q7_7031_0.val, (⟨none, 0, []⟩ : Sv NamesRef).val, str [], i64 0, str [], i64 0, str [], (⟨none, 0, []⟩ : Sv TodoStep).val, (⟨none, 0, []⟩ : Sv TodoStep).val, i64 0, str [], str [], i64 0, (⟨none, 0, []⟩ : Sv IndexEntry).val, (⟨none, 0, []⟩ : Sv FilesFile).val, (⟨none, 0, []⟩ : Sv ShelfShelf).val]) rfl ?_
 obtain ⟨y11_5, ey11_5, hS⟩ := bd_s hS
 refine VL.callO (state_reader_many_v3_ct r_0_b q7_7031_2 r_0_dec_b q7_7031_1 b3_7051 (⟨q5_7011_0, q7_7031_0, (⟨none, 0, []⟩ : Sv NamesRef), [], 0, [], 0, [], (⟨none, 0, []⟩ : Sv TodoStep), (⟨none, 0, []⟩ : Sv TodoStep), 0, [], [], 0, (⟨none, 0, []⟩ : Sv IndexEntry), (⟨none, 0, []⟩ : Sv FilesFile), (⟨none, 0, []⟩ : Sv ShelfShelf)⟩ : StateNow) b1_1 ey11_5) rfl (by decide) ?_
 rintro ⟨q11_5_0, q11_5_1, q11_5_2⟩ rfl
 try dsimp only
 refine Zl ?_
 refine VC.keep (ρ' := [(1, ptr b1_1 0), (2, ptr b2_2 0), (3, ptr b3_7051 0)]) [1, 2, 3] rfl ?_
 refine Zq ?_
 refine VC.draw [(0, true), (2, true), (1, false), (4, true), (3, false), (5, false), (6, true), (7, false)] mixed (by kernel_rfl) (by kernel_rfl) (by kernel_rfl) ?_
 refine Zw rfl (q_fe gone156 rfl rfl) ?_
 refine Zw rfl (q_fe gone156 rfl rfl) ?_
 refine VD.one rfl ?_
 obtain ⟨y13_6, ey13_6, hS⟩ := bd_s hS
 refine VL.callO (state_reader_head_ct r_0_b q11_5_1 r_0_dec_b q11_5_0 ey13_6) rfl (by decide) ?_
 rintro ⟨q13_6_0, q13_6_1⟩ rfl
 try dsimp only
 refine VL.back (D' := [(2, ptr r_0_b 0)]) (by kernel_rfl) (Pend.cons rfl (q_fe gone156 rfl rfl) (Pend.nil)) ?_
 refine Zw rfl (q_field gfa35_3 rfl) ?_
 refine VD.one rfl ?_
 obtain ⟨y15_7, ey15_7, hS⟩ := bd_s hS
 refine VL.callO (state_reader_seq_ct r_0_b q11_5_1 r_0_dec_b q13_6_1 ey15_7) rfl (by decide) ?_
 rintro ⟨q15_7_0, q15_7_1, q15_7_2⟩ rfl
 try dsimp only
 refine VL.back (D' := [(4, ptr b3_7051 3)]) (by kernel_rfl) (Pend.cons rfl (q_field gfa35_3 rfl) (Pend.nil)) ?_
 refine VD.one rfl ?_
 refine Zv (vc := [str q13_6_0.branch, i64 q13_6_0.commit]) (cs' := [q11_5_2.work.val, q11_5_2.index.val, q11_5_2.refs.val, str q13_6_0.branch, i64 q13_6_0.commit, str q11_5_2.seq_kind, i64 q11_5_2.seq_other, str q11_5_2.seq_text, q11_5_2.seq_doing.val, q11_5_2.seq_todo.val, i64 q11_5_2.seq_made, str q11_5_2.seq_branch, str q11_5_2.seq_head_branch, i64 q11_5_2.seq_head_commit, q11_5_2.seq_index.val, q11_5_2.seq_work.val, q11_5_2.stash.val]) rfl gsz28 ?_
 refine VL.back (D' := []) (by kernel_rfl) (Pend.nil) ?_
 refine Zw rfl (q_field gfa35_4 rfl) ?_
 refine VD.one rfl ?_
 refine Zv (vc := (zStateSeq q15_7_0)) (cs' := [q11_5_2.work.val, q11_5_2.index.val, q11_5_2.refs.val, str q13_6_0.branch, i64 q13_6_0.commit, str q15_7_0.kind, i64 q15_7_0.other, str q15_7_0.text, q15_7_0.doing.val, q15_7_0.todo.val, i64 q15_7_0.made, str q15_7_0.branch, str q15_7_0.head_branch, i64 q15_7_0.head_commit, q15_7_0.index.val, q15_7_0.work.val, q11_5_2.stash.val]) rfl gsz31 ?_
 refine VL.back (D' := []) (by kernel_rfl) (Pend.nil) ?_
 refine VD.to (fun _ _ h => h) ?_
 refine Zq (Zr ?_)
 refine Zu (q_fe gone156 rfl rfl) ?_
 refine Zu (q_mkfn rfl) ?_
 obtain ⟨y20_8, ey20_8, hS⟩ := bd_s hS
 refine VL.callO (state_reader_many_v5_ct r_0_b q15_7_2 r_0_dec_b q15_7_1 b3_7051 (⟨q11_5_2.work, q11_5_2.index, q11_5_2.refs, q13_6_0.branch, q13_6_0.commit, q15_7_0.kind, q15_7_0.other, q15_7_0.text, q15_7_0.doing, q15_7_0.todo, q15_7_0.made, q15_7_0.branch, q15_7_0.head_branch, q15_7_0.head_commit, q15_7_0.index, q15_7_0.work, q11_5_2.stash⟩ : StateNow) b1_1 ey20_8) rfl (by decide) ?_
 rintro ⟨q20_8_0, q20_8_1⟩ rfl
 try dsimp only
 refine Zl ?_
 refine VC.keep (ρ' := [(2, ptr b2_2 0), (3, ptr b3_7051 0)]) [2, 3] rfl ?_
 refine Zq ?_
 refine VC.draw [(0, true), (1, true), (3, true), (4, true), (2, false), (6, true), (5, false), (7, false), (8, true), (9, false)] mixed (by kernel_rfl) (by kernel_rfl) (by kernel_rfl) ?_
 refine Zw rfl (q_field gfa35_2 rfl) ?_
 refine Zw rfl (q_fe gone26 rfl rfl) ?_
 refine Zw rfl (q_field gfa35_5 rfl) ?_
 refine Zw rfl (q_fe gone33 rfl rfl) ?_
 refine VD.one rfl ?_
 refine VL.shut q11_5_2.refs 113 (fun _ _ _ _ => trivial) ?_
 obtain ⟨y23_9, ey23_9, hS⟩ := bd_s hS
 refine VL.callF (slices_Clip_names_Ref_names_Ref_ct q11_5_2.refs ey23_9) rfl (by decide) ?_
 rintro q23_9_0 rfl
 try dsimp only
 refine VL.back (D' := [(4, q11_5_2.stash.val), (3, ptr b3_7051 16)]) (by kernel_rfl) (Pend.cons rfl (q_fe gone33 rfl rfl) (Pend.cons rfl (q_field gfa35_5 rfl) (Pend.nil))) ?_
 refine Zw rfl (q_field gfa35_2 rfl) ?_
 refine VD.one rfl ?_
 refine VL.shut q11_5_2.stash 154 (fun h m => InM.out (X := MAl q11_5_2.stash.l) h m) ?_
 obtain ⟨y26_10, ey26_10, hS⟩ := bd_s hS
 refine VL.callF (slices_Clip_shelf_Stack_shelf_Shelf_ct q11_5_2.stash ey26_10) rfl (by decide) ?_
 rintro q26_10_0 rfl
 try dsimp only
 refine VL.back (D' := [(6, ptr b3_7051 2)]) (by kernel_rfl) (Pend.cons rfl (q_field gfa35_2 rfl) (Pend.nil)) ?_
 refine VD.one rfl ?_
 refine Zv (vc := [q23_9_0.val]) (cs' := [q11_5_2.work.val, q11_5_2.index.val, q23_9_0.val, str q13_6_0.branch, i64 q13_6_0.commit, str q15_7_0.kind, i64 q15_7_0.other, str q15_7_0.text, q15_7_0.doing.val, q15_7_0.todo.val, i64 q15_7_0.made, str q15_7_0.branch, str q15_7_0.head_branch, i64 q15_7_0.head_commit, q15_7_0.index.val, q15_7_0.work.val, q11_5_2.stash.val]) rfl gsz26 ?_
 refine VL.back (D' := []) (by kernel_rfl) (Pend.nil) ?_
 refine Zw rfl (q_field gfa35_5 rfl) ?_
 refine VD.one rfl ?_
 refine Zv (vc := [q26_10_0.val]) (cs' := [q11_5_2.work.val, q11_5_2.index.val, q23_9_0.val, str q13_6_0.branch, i64 q13_6_0.commit, str q15_7_0.kind, i64 q15_7_0.other, str q15_7_0.text, q15_7_0.doing.val, q15_7_0.todo.val, i64 q15_7_0.made, str q15_7_0.branch, str q15_7_0.head_branch, i64 q15_7_0.head_commit, q15_7_0.index.val, q15_7_0.work.val, q26_10_0.val]) rfl gsz33 ?_
 refine VL.back (D' := []) (by kernel_rfl) (Pend.nil) ?_
 refine VD.to (fun _ _ h => h) ?_
 refine Zq (Zr ?_)
 refine Zu (q_fes gagg35 rfl rfl) ?_
 refine Zv (vc := [q11_5_2.work.val, q11_5_2.index.val, q23_9_0.val, str q13_6_0.branch, i64 q13_6_0.commit, str q15_7_0.kind, i64 q15_7_0.other, str q15_7_0.text, q15_7_0.doing.val, q15_7_0.todo.val, i64 q15_7_0.made, str q15_7_0.branch, str q15_7_0.head_branch, i64 q15_7_0.head_commit, q15_7_0.index.val, q15_7_0.work.val, q26_10_0.val]) (cs' := [q11_5_2.work.val, q11_5_2.index.val, q23_9_0.val, str q13_6_0.branch, i64 q13_6_0.commit, str q15_7_0.kind, i64 q15_7_0.other, str q15_7_0.text, q15_7_0.doing.val, q15_7_0.todo.val, i64 q15_7_0.made, str q15_7_0.branch, str q15_7_0.head_branch, i64 q15_7_0.head_commit, q15_7_0.index.val, q15_7_0.work.val, q26_10_0.val]) rfl gsz35 ?_
 refine Zl ?_
 refine VC.keep (ρ' := [(2, ptr b2_2 0)]) [2] rfl ?_
 cases hS
 exact VC.ret (finG (vs := [.agg #[q11_5_2.work.val, q11_5_2.index.val, q23_9_0.val, str q13_6_0.branch, i64 q13_6_0.commit, str q15_7_0.kind, i64 q15_7_0.other, str q15_7_0.text, q15_7_0.doing.val, q15_7_0.todo.val, i64 q15_7_0.made, str q15_7_0.branch, str q15_7_0.head_branch, i64 q15_7_0.head_commit, q15_7_0.index.val, q15_7_0.work.val, q26_10_0.val]]) (.inr rfl) rfl (RVs.cell gagg35 rfl rfl Rd.blk (RVs.nil)) (⟨q11_5_2.work, q11_5_2.index, q23_9_0, q13_6_0.branch, q13_6_0.commit, q15_7_0.kind, q15_7_0.other, q15_7_0.text, q15_7_0.doing, q15_7_0.todo, q15_7_0.made, q15_7_0.branch, q15_7_0.head_branch, q15_7_0.head_commit, q15_7_0.index, q15_7_0.work, q26_10_0⟩, ⟨q20_8_0.b, q20_8_0.at_, q20_8_0.err⟩, ⟨q20_8_1.bad⟩) rfl rfl (by (try dsimp only); exact InM.out) (by (try dsimp only); exact EntO.out))
theorem state_reader_numbers_1_ct (a_0_b : Nat) (a_0 : Sv Int) (a_1_b : Nat) (a_1__b : Nat) (a_1_ : StateReader) (a_1__dec_b : Nat) (a_1__dec : CodecDec) {r : List Int × CodecDecP} (hS : Sh.state_reader_numbers_1 a_0.l a_1_ a_1__dec.pl = some r) :
 Ct Tryz.prog 257 [ptr a_0_b 0, ptr a_1_b 0] (a_1__dec.b.ok.and a_1__dec.err.ok) (Ow.star (Sv.own a_0 3) (Ow.star (Blk a_0_b [a_0.val] 56) (Ow.star (Blk a_1__dec_b [a_1__dec.b.val, i64 a_1__dec.at_, a_1__dec.err.val] 218) (Ow.star (Blk a_1__b [ptr a_1__dec_b 0, .bool a_1_.bad] 160) (Blk a_1_b [ptr a_1__b 0] 156))))) (X := Sv Int × CodecDec) (fun x => .tuple #[]) (fun x => r = (x.1.l, x.2.pl)) (fun x => (x.2.b.ok.and x.2.err.ok)) (fun x => Ow.star (Blk a_0_b [x.1.val] 56) (Ow.star (Sv.own x.1 3) (Ow.star (Blk a_1__dec_b [x.2.b.val, i64 x.2.at_, x.2.err.val] 218) (Ow.star (Blk a_1__b [ptr a_1__dec_b 0, .bool a_1_.bad] 160) (Blk a_1_b [ptr a_1__b 0] 156))))) := by
 refine Zo Tryz.func257 Tryz.ntmps257 fun c => ?_
 unfold Sh.state_reader_numbers_1 at hS
 refine VC.draw [(0, true), (1, true), (2, true), (3, true), (4, true), (5, false), (6, false), (7, false), (8, false)] mixed (by kernel_rfl) (by kernel_rfl) (by kernel_rfl) ?_
 refine Zw rfl (q_fe gone56 rfl rfl) ?_
 refine Zw rfl (q_fe gone156 rfl rfl) ?_
 refine Zw rfl (q_nilCheck rfl) ?_
 refine Zw rfl (q_field gfa160_0 rfl) ?_
 refine Zw rfl (q_fe gone157 rfl rfl) ?_
 refine VD.one rfl ?_
 obtain ⟨y7_1, ey7_1, hS⟩ := bd_s hS
 refine VL.callO (codec_Dec_Int_ct a_1__dec_b a_1__dec ey7_1) rfl (by decide) ?_
 rintro ⟨q7_1_0, q7_1_1⟩ rfl
 try dsimp only
 refine VL.back (D' := [(0, a_0.val)]) (by kernel_rfl) (Pend.cons rfl (q_fe gone56 rfl rfl) (Pend.nil)) ?_
 refine VD.one rfl ?_
 refine VL.lit (α := Int) (xs := [.tmp 7]) (vs := [i64 q7_1_0]) [q7_1_0] Tryz.underlying56 glit3 (by decide) rfl rfl rfl rfl (by decide) (fun _ _ _ _ => trivial) (by decide) (fun s8_2 hs8_2 => ?_) (by decide)
 replace hS := lt_to hs8_2 hS
 refine VL.back (D' := [(0, a_0.val)]) (by kernel_rfl) (Pend.cons rfl (q_fe gone56 rfl rfl) (Pend.nil)) ?_
 refine VD.one rfl ?_
 obtain ⟨b9, hS⟩ := gd_s hS
 refine VL.app (s := a_0) (r := s8_2) Tryz.underlying56 gapp3 (by decide) rfl Fo.out (ap1 b9) (ap2 b9 (by decide)) (by decide) (fun s9_4 hs9_4 => ?_)
 replace hS := lt_to hs9_4 hS
 refine VL.back (D' := []) (by kernel_rfl) (Pend.nil) ?_
 refine VD.one rfl ?_
 refine Zv (vc := [s9_4.val]) (cs' := [s9_4.val]) rfl gsz56 ?_
 refine VL.back (D' := []) (by kernel_rfl) (Pend.nil) ?_
 cases hS
 exact VD.nil (fin0 (.inl rfl) rfl (s9_4, ⟨q7_1_1.b, q7_1_1.at_, q7_1_1.err⟩) rfl rfl (by (try dsimp only); exact InM.out) (by (try dsimp only); exact EntO.out))
theorem state_reader_many_v7_ct (r_0_b : Nat) (r_0 : StateReader) (r_0_dec_b : Nat) (r_0_dec : CodecDec) (one_1_0_b : Nat) (one_1_0 : Sv Int) (one_1_1_b : Nat) {r : CodecDecP × StateReader × List Int} (hS : Sh.state_reader_many_v7 r_0 r_0_dec.pl one_1_0.l = some r) :
 Ct Tryz.prog 150 [ptr r_0_b 0, .func (.func 257) #[] #[ptr one_1_0_b 0, ptr one_1_1_b 0]] (r_0_dec.b.ok.and r_0_dec.err.ok) (Ow.star (Blk r_0_dec_b [r_0_dec.b.val, i64 r_0_dec.at_, r_0_dec.err.val] 218) (Ow.star (Blk r_0_b [ptr r_0_dec_b 0, .bool r_0.bad] 160) (Ow.star (Sv.own one_1_0 3) (Ow.star (Blk one_1_0_b [one_1_0.val] 56) (Blk one_1_1_b [ptr r_0_b 0] 156))))) (X := CodecDec × StateReader × Sv Int) (fun x => .tuple #[]) (fun x => r = (x.1.pl, x.2.1, x.2.2.l)) (fun x => (x.1.b.ok.and x.1.err.ok)) (fun x => Ow.star (Blk r_0_dec_b [x.1.b.val, i64 x.1.at_, x.1.err.val] 218) (Ow.star (Blk r_0_b [ptr r_0_dec_b 0, .bool x.2.1.bad] 160) (Ow.star (Blk one_1_0_b [x.2.2.val] 56) (Ow.star (Sv.own x.2.2 3) (Blk one_1_1_b [ptr r_0_b 0] 156))))) := by
 refine Zo Tryz.func150 Tryz.ntmps150 fun c => ?_
 unfold Sh.state_reader_many_v7 at hS
 refine Zq (Zr ?_)
 refine Zm ?_
 refine Zu (q_nilCheck rfl) ?_
 refine Zu (q_field gfa160_0 rfl) ?_
 refine Zu (q_fe gone157 rfl rfl) ?_
 obtain ⟨y10_1, ey10_1, hS⟩ := bd_s hS
 refine VL.callO (codec_Dec_Int_ct r_0_dec_b r_0_dec ey10_1) rfl (by decide) ?_
 rintro ⟨q10_1_0, q10_1_1⟩ rfl
 try dsimp only
 refine Zy ?_
 refine VC.cutJ (S := Bool) (fun (c1_2 : Bool) => c1_2) (fun (c1_2 : Bool) => [(0, ptr r_0_b 0), (1, .func (.func 257) #[] #[ptr one_1_0_b 0, ptr one_1_1_b 0]), (4, i64 q10_1_0)]) (fun (c1_2 : Bool) => Mo.tt) (fun (c1_2 : Bool) => Ow.star (Blk r_0_dec_b [q10_1_1.b.val, i64 q10_1_1.at_, q10_1_1.err.val] 218) (Ow.star (Blk r_0_b [ptr r_0_dec_b 0, .bool c1_2] 160) (Ow.star (Blk one_1_0_b [one_1_0.val] 56) (Ow.star (Blk one_1_1_b [ptr r_0_b 0] 156) (Ow.star (Sv.own one_1_0 3) (Ow.emp)))))) hS ?_ ?_
 ·
  clear hS
  intro k3 hS
  refine Zr ?_
  refine Zy ?_
  refine Zu (q_nilCheck rfl) ?_
  refine Zu (q_field gfa160_1 rfl) ?_
  refine Zu (q_fe gone4 rfl rfl) ?_
  refine Zm ?_
  refine Zspb 16 hS (fun h16 hS => ?_) (fun h16 hS => ?_)
  ·
   refine Zy ?_
   refine Zu (q_nilCheck rfl) ?_
   refine Zu (q_field gfa160_1 rfl) ?_
   refine Zv (vc := [.bool true]) (cs' := [ptr r_0_dec_b 0, .bool true]) rfl gsz4 ?_
   refine VL.mt true [0, 1, 4] (fun _ _ h => h) hS rfl
  refine Zg ?_
  refine Zh (q_lss rfl rfl) ?_
  refine Zf ?_
  refine Zu (q_nilCheck rfl) ?_
  refine Zu (q_field gfa160_1 rfl) ?_
  refine Zv (vc := [.bool (decide (q10_1_0 < 0))]) (cs' := [ptr r_0_dec_b 0, .bool (decide (q10_1_0 < 0))]) rfl gsz4 ?_
  refine VL.mt (decide (q10_1_0 < 0)) [0, 1, 4] (fun _ _ h => h) hS rfl
 clear hS
 rintro c1_2 hS
 refine Zq (Zr ?_)
 refine Zy ?_
 refine Zb ?_
 refine VC.iter (S := Int × Sv UInt8 × Int × Er × Sv Int) (fun sg => (sg.1, sg.2.1.l, sg.2.2.1, sg.2.2.2.1.pl, sg.2.2.2.2.l)) (fun sg => [(0, ptr r_0_b 0), (1, .func (.func 257) #[] #[ptr one_1_0_b 0, ptr one_1_1_b 0]), (4, i64 q10_1_0), (5, i64 sg.1)]) (fun sg => (sg.2.1.ok.and sg.2.2.2.1.ok)) (fun sg => Ow.star (Blk r_0_dec_b [sg.2.1.val, i64 sg.2.2.1, sg.2.2.2.1.val] 218) (Ow.star (Blk r_0_b [ptr r_0_dec_b 0, .bool c1_2] 160) (Ow.star (Blk one_1_0_b [sg.2.2.2.2.val] 56) (Ow.star (Blk one_1_1_b [ptr r_0_b 0] 156) (Ow.star (Sv.own sg.2.2.2.2 3) (Ow.emp)))))) (0, q10_1_1.b, q10_1_1.at_, q10_1_1.err, one_1_0) [0, 1, 4, 5] hS rfl ?_
 clear hS
 rintro ⟨i5_4, c0_5, c1_6, c2_7, c0_8⟩ m1 y1 hS hK1
 refine Zq (Zq (Zr ?_))
 refine Zy ?_
 refine Zu (q_lss rfl rfl) ?_
 refine Zm ?_
 refine Zsp 25 hS (fun h25 hS => ?_) (fun h25 hS => ?_)
 ·
  refine Zg ?_
  refine Zh (q_nilCheck rfl) ?_
  refine Zh (q_field gfa160_0 rfl) ?_
  refine Zh (q_fe gone157 rfl rfl) ?_
  refine VL.guard rfl rfl ?_
  obtain ⟨y30_9, ey30_9, hS⟩ := bd_s hS
  refine VL.callO (codec_Dec_Err_ct r_0_dec_b (⟨c0_5, c1_6, c2_7⟩ : CodecDec) ey30_9) rfl (by decide) ?_
  rintro q30_9_0 rfl
  try dsimp only
  refine Zh (q_ereq Tryz.underlying45 rfl) ?_
  refine Zy ?_
  refine VC.keep (ρ' := [(0, ptr r_0_b 0), (1, .func (.func 257) #[] #[ptr one_1_0_b 0, ptr one_1_1_b 0]), (4, i64 q10_1_0), (5, i64 i5_4), (32, .bool (decide (q30_9_0.pl.isNil = true)))]) [0, 1, 4, 5, 32] rfl ?_
  refine Zc hS (fun h32 hS => ?_) (fun h32 hS => ?_)
  ·
   refine Zk ?_
   refine Zq (Zb (Zr ?_))
   refine Zm ?_
   obtain ⟨y36_10, ey36_10, hS⟩ := bd_s hS
   refine VL.callOV (vs := []) (caps := [ptr one_1_0_b 0, ptr one_1_1_b 0]) (state_reader_numbers_1_ct one_1_0_b c0_8 one_1_1_b r_0_b (⟨c1_2⟩ : StateReader) r_0_dec_b (⟨c0_5, c1_6, c2_7⟩ : CodecDec) ey36_10) rfl rfl (by decide) ?_
   rintro ⟨q36_10_0, q36_10_1⟩ rfl
   try dsimp only
   refine Zl ?_
   refine Zr ?_
   refine Zm ?_
   obtain ⟨b34, hS⟩ := gd_s hS
   refine Zu (q_add rfl rfl b34) ?_
   refine Za ?_
   refine VL.rnd ((i5_4 + 1), q36_10_1.b, q36_10_1.at_, q36_10_1.err, q36_10_0) [0, 1, 4, 5] (fun _ _ h => h) (go2 hS hK1) rfl
  replace hS := up2 hS hK1
  cases hS
  exact VC.exit (fin0 (.inl rfl) rfl (⟨c0_5, c1_6, c2_7⟩, ⟨c1_2⟩, c0_8) rfl rfl (by (try dsimp only); exact InM.out) (by (try dsimp only); exact EntO.out))
 refine VL.skips 6 [31] (by kernel_rfl) ?_
 refine Zy ?_
 refine VC.cond_f rfl ?_
 replace hS := up2 hS hK1
 cases hS
 exact VC.exit (fin0 (.inl rfl) rfl (⟨c0_5, c1_6, c2_7⟩, ⟨c1_2⟩, c0_8) rfl rfl (by (try dsimp only); exact InM.out) (by (try dsimp only); exact EntO.out))
theorem slices_Clip_int_int_ct (s_0 : Sv Int) {r : List Int} (hS : Sh.slices_Clip_int_int s_0.l = some r) :
 Ct Tryz.prog 258 [s_0.val] s_0.ok (Ow.emp) (X := Sv Int) (fun x => x.val) (fun x => r = x.l) (fun x => x.ok) (fun x => Ow.emp) := by
 refine Zo Tryz.func258 Tryz.ntmps258 fun c => ?_
 unfold Sh.slices_Clip_int_int at hS
 refine Zq (Zr ?_)
 refine Zy ?_
 refine Zq (Zr ?_)
 refine Zy ?_
 refine Zu (q_ln (s := s_0) Tryz.underlying56 rfl) ?_
 refine Zm ?_
 refine Zu (q_ln (s := s_0) Tryz.underlying56 rfl) ?_
 obtain ⟨b8, hS⟩ := gd_s hS
 refine VL.stom Tryz.underlying56 gsz3 rfl rfl rfl b8.1 (b8.2) (by decide) fun s8_1 hs8_1 => ?_
 replace hS := lt_to hs8_1 hS
 refine Zy ?_
 cases hS
 exact VC.ret (fin1 (.inr rfl) rfl rfl s8_1 rfl rfl (by (try dsimp only); exact InM.out) (fun _ _ => trivial))
theorem state_reader_numbers_ct (r_0_b : Nat) (r_0 : StateReader) (r_0_dec_b : Nat) (r_0_dec : CodecDec) {r : List Int × CodecDecP × StateReader} (hS : Sh.state_reader_numbers r_0 r_0_dec.pl = some r) :
 Ct Tryz.prog 188 [ptr r_0_b 0] (r_0_dec.b.ok.and r_0_dec.err.ok) (Ow.star (Blk r_0_dec_b [r_0_dec.b.val, i64 r_0_dec.at_, r_0_dec.err.val] 218) (Blk r_0_b [ptr r_0_dec_b 0, .bool r_0.bad] 160)) (X := Sv Int × CodecDec × StateReader) (fun x => x.1.val) (fun x => r = (x.1.l, x.2.1.pl, x.2.2)) (fun x => (x.1.ok.and (x.2.1.b.ok.and x.2.1.err.ok))) (fun x => Ow.star (Blk r_0_dec_b [x.2.1.b.val, i64 x.2.1.at_, x.2.1.err.val] 218) (Blk r_0_b [ptr r_0_dec_b 0, .bool x.2.2.bad] 160)) := by
 refine Zo Tryz.func188 Tryz.ntmps188 fun c => ?_
 unfold Sh.state_reader_numbers at hS
 refine Zq (Zr ?_)
 refine VL.box (cs := [ptr r_0_b 0]) rfl rfl (by decide) fun b1_1 => ?_
 refine Zy ?_
 refine Zq (Zr ?_)
 refine VL.alloc (cs := [.slice none 0 0]) (by kernel_rfl) (by decide) fun b3_2 => ?_
 refine Zl ?_
 refine Zq (Zr ?_)
 refine Zu (q_fe gone156 rfl rfl) ?_
 refine Zu (q_mkfn rfl) ?_
 refine VL.nilO (⟨none, 0, []⟩ : Sv Int) 3 ⟨rfl, rfl⟩ ?_
 refine VL.reB b3_2 (cs' := [(⟨none, 0, []⟩ : Sv Int).val]) rfl ?_
 obtain ⟨y6_3, ey6_3, hS⟩ := bd_s hS
 refine VL.callO (state_reader_many_v7_ct r_0_b r_0 r_0_dec_b r_0_dec b3_2 (⟨none, 0, []⟩ : Sv Int) b1_1 ey6_3) rfl (by decide) ?_
 rintro ⟨q6_3_0, q6_3_1, q6_3_2⟩ rfl
 try dsimp only
 refine Zl ?_
 refine Zq (Zr ?_)
 refine Zu (q_fe gone56 rfl rfl) ?_
 refine VL.shut q6_3_2 3 (fun _ _ _ _ => trivial) ?_
 obtain ⟨y8_4, ey8_4, hS⟩ := bd_s hS
 refine VL.callF (slices_Clip_int_int_ct q6_3_2 ey8_4) rfl (by decide) ?_
 rintro q8_4_0 rfl
 try dsimp only
 refine Zy ?_
 cases hS
 exact VC.ret (fin1 (.inr rfl) rfl rfl (q8_4_0, ⟨q6_3_0.b, q6_3_0.at_, q6_3_0.err⟩, ⟨q6_3_1.bad⟩) rfl rfl (by (try dsimp only); exact InM.out) (by (try dsimp only); exact EntO.out))
theorem state_reader_state_1_ct (a_0_b : Nat) (a_0 : StateState) (a_1_b : Nat) (a_1__b : Nat) (a_1_ : StateReader) (a_1__dec_b : Nat) (a_1__dec : CodecDec) {r : StateStateP × CodecDecP × StateReader} (hS : Sh.state_reader_state_1 a_0.pl a_1_ a_1__dec.pl = some r) :
 Ct Tryz.prog 187 [ptr a_0_b 0, ptr a_1_b 0] (a_0.now_work.ok.and (a_0.now_index.ok.and (a_0.now_refs.ok.and (a_0.now_seq_doing.ok.and (a_0.now_seq_todo.ok.and (a_0.now_seq_index.ok.and (a_0.now_seq_work.ok.and (a_0.now_stash.ok.and ((MAl a_0.commits.l).and (a_0.log_back.ok.and (a_0.log_forth.ok.and (a_1__dec.b.ok.and a_1__dec.err.ok)))))))))))) (Ow.star (Sv.own a_0.commits 58) (Ow.star (Blk a_0_b (zStateState a_0) 41) (Ow.star (Blk a_1__dec_b [a_1__dec.b.val, i64 a_1__dec.at_, a_1__dec.err.val] 218) (Ow.star (Blk a_1__b [ptr a_1__dec_b 0, .bool a_1_.bad] 160) (Blk a_1_b [ptr a_1__b 0] 156))))) (X := StateState × CodecDec × StateReader) (fun x => .tuple #[]) (fun x => r = (x.1.pl, x.2.1.pl, x.2.2)) (fun x => (x.1.now_work.ok.and (x.1.now_index.ok.and (x.1.now_refs.ok.and (x.1.now_seq_doing.ok.and (x.1.now_seq_todo.ok.and (x.1.now_seq_index.ok.and (x.1.now_seq_work.ok.and (x.1.now_stash.ok.and ((MAl x.1.commits.l).and (x.1.log_back.ok.and (x.1.log_forth.ok.and (x.2.1.b.ok.and x.2.1.err.ok))))))))))))) (fun x => Ow.star (Blk a_0_b (zStateState x.1) 41) (Ow.star (Sv.own x.1.commits 58) (Ow.star (Blk a_1__dec_b [x.2.1.b.val, i64 x.2.1.at_, x.2.1.err.val] 218) (Ow.star (Blk a_1__b [ptr a_1__dec_b 0, .bool x.2.2.bad] 160) (Blk a_1_b [ptr a_1__b 0] 156))))) := by
 refine Zo Tryz.func187 Tryz.ntmps187 fun c => ?_
 unfold Sh.state_reader_state_1 at hS
 refine VC.draw [(0, true), (1, true), (2, true), (4, true), (6, true), (7, true), (8, true), (9, true), (11, true), (12, true), (13, true), (14, true), (3, false), (5, false), (10, false), (15, false), (16, true), (17, false), (18, false), (19, true), (20, false)] mixed (by kernel_rfl) (by kernel_rfl) (by kernel_rfl) ?_
 refine Zw rfl (q_field gfa41_1 rfl) ?_
 refine Zw rfl (q_fe gone36 rfl rfl) ?_
 refine Zw rfl (q_fe gone156 rfl rfl) ?_
 refine Zw rfl (q_fe gone156 rfl rfl) ?_
 refine Zw rfl (q_fe gone156 rfl rfl) ?_
 refine Zw rfl (q_nilCheck rfl) ?_
 refine Zw rfl (q_field gfa160_0 rfl) ?_
 refine Zw rfl (q_fe gone157 rfl rfl) ?_
 refine Zw rfl (q_fe gone156 rfl rfl) ?_
 refine Zw rfl (q_nilCheck rfl) ?_
 refine Zw rfl (q_field gfa160_0 rfl) ?_
 refine Zw rfl (q_fe gone157 rfl rfl) ?_
 refine VD.one rfl ?_
 obtain ⟨y5_1, ey5_1, hS⟩ := bd_s hS
 refine VL.callO (state_reader_row_ct a_1__b a_1_ a_1__dec_b a_1__dec ey5_1) rfl (by decide) ?_
 rintro ⟨q5_1_0, q5_1_1, q5_1_2⟩ rfl
 try dsimp only
 refine VL.back (D' := [(14, ptr a_1__dec_b 0), (13, ptr a_1__b 0), (12, ptr a_1__b 0), (11, ptr a_1__b 0), (9, ptr a_1__dec_b 0), (8, ptr a_1__b 0), (7, ptr a_1__b 0), (6, ptr a_1__b 0), (4, ptr a_1__b 0), (1, a_0.commits.val), (0, ptr a_0_b 17)]) (by kernel_rfl) (Pend.cons rfl (q_fe gone157 rfl rfl) (Pend.cons rfl (q_field gfa160_0 rfl) (Pend.cons rfl (q_nilCheck rfl) (Pend.cons rfl (q_fe gone156 rfl rfl) (Pend.cons rfl (q_fe gone157 rfl rfl) (Pend.cons rfl (q_field gfa160_0 rfl) (Pend.cons rfl (q_nilCheck rfl) (Pend.cons rfl (q_fe gone156 rfl rfl) (Pend.cons rfl (q_fe gone156 rfl rfl) (Pend.cons rfl (q_fe gone36 rfl rfl) (Pend.cons rfl (q_field gfa41_1 rfl) (Pend.nil)))))))))))) ?_
 refine VD.one rfl ?_
 obtain ⟨y7_2, ey7_2, hS⟩ := bd_s hS
 refine VL.callO (state_reader_numbers_ct a_1__b q5_1_2 a_1__dec_b q5_1_1 ey7_2) rfl (by decide) ?_
 rintro ⟨q7_2_0, q7_2_1, q7_2_2⟩ rfl
 try dsimp only
 refine VL.back (D' := [(14, ptr a_1__dec_b 0), (13, ptr a_1__b 0), (12, ptr a_1__b 0), (11, ptr a_1__b 0), (9, ptr a_1__dec_b 0), (8, ptr a_1__b 0), (7, ptr a_1__b 0), (6, ptr a_1__b 0), (1, a_0.commits.val), (0, ptr a_0_b 17)]) (by kernel_rfl) (Pend.cons rfl (q_fe gone157 rfl rfl) (Pend.cons rfl (q_field gfa160_0 rfl) (Pend.cons rfl (q_nilCheck rfl) (Pend.cons rfl (q_fe gone156 rfl rfl) (Pend.cons rfl (q_fe gone157 rfl rfl) (Pend.cons rfl (q_field gfa160_0 rfl) (Pend.cons rfl (q_nilCheck rfl) (Pend.cons rfl (q_fe gone156 rfl rfl) (Pend.cons rfl (q_fe gone36 rfl rfl) (Pend.cons rfl (q_field gfa41_1 rfl) (Pend.nil))))))))))) ?_
 refine VD.one rfl ?_
 obtain ⟨y12_3, ey12_3, hS⟩ := bd_s hS
 refine VL.callO (codec_Dec_Int_ct a_1__dec_b q7_2_1 ey12_3) rfl (by decide) ?_
 rintro ⟨q12_3_0, q12_3_1⟩ rfl
 try dsimp only
 refine VL.back (D' := [(14, ptr a_1__dec_b 0), (13, ptr a_1__b 0), (12, ptr a_1__b 0), (11, ptr a_1__b 0), (1, a_0.commits.val), (0, ptr a_0_b 17)]) (by kernel_rfl) (Pend.cons rfl (q_fe gone157 rfl rfl) (Pend.cons rfl (q_field gfa160_0 rfl) (Pend.cons rfl (q_nilCheck rfl) (Pend.cons rfl (q_fe gone156 rfl rfl) (Pend.cons rfl (q_fe gone36 rfl rfl) (Pend.cons rfl (q_field gfa41_1 rfl) (Pend.nil))))))) ?_
 refine VD.one rfl ?_
 obtain ⟨y17_4, ey17_4, hS⟩ := bd_s hS
 refine VL.callO (codec_Dec_Text_ct a_1__dec_b q12_3_1 ey17_4) rfl (by decide) ?_
 rintro ⟨q17_4_0, q17_4_1⟩ rfl
 try dsimp only
 refine VL.back (D' := [(1, a_0.commits.val), (0, ptr a_0_b 17)]) (by kernel_rfl) (Pend.cons rfl (q_fe gone36 rfl rfl) (Pend.cons rfl (q_field gfa41_1 rfl) (Pend.nil))) ?_
 refine Zw rfl (q_build (vs := [(0, q5_1_0.val), (1, q7_2_0.val), (2, i64 q12_3_0), (3, str q17_4_0)]) (cs := #[q5_1_0.val, q7_2_0.val, i64 q12_3_0, str q17_4_0]) rfl (by kernel_rfl)) ?_
 refine VD.one rfl ?_
 refine VL.lit (α := StateCommit) (xs := [.tmp 18]) (vs := [.agg #[q5_1_0.val, q7_2_0.val, i64 q12_3_0, str q17_4_0]]) [⟨q5_1_0, q7_2_0, q12_3_0, q17_4_0⟩] Tryz.underlying36 glit58 (by decide) rfl rfl rfl rfl (by decide) (fun h m => List.forall_mem_cons.2 ⟨InM.out (X := (q5_1_0.ok.and q7_2_0.ok)) h m, fun _ h => by cases h⟩) (by decide) (fun s19_5 hs19_5 => ?_) (by decide)
 replace hS := lt_to (congrArg (List.map StateCommit.pl) hs19_5) hS
 refine VL.back (D' := [(1, a_0.commits.val), (0, ptr a_0_b 17)]) (by kernel_rfl) (Pend.cons rfl (q_fe gone36 rfl rfl) (Pend.cons rfl (q_field gfa41_1 rfl) (Pend.nil))) ?_
 refine VD.one rfl ?_
 obtain ⟨b20, hS⟩ := gd_s hS
 refine VL.app (s := a_0.commits) (r := s19_5) Tryz.underlying36 gapp58 (by decide) rfl Fo.out (ap1 (apm b20)) (ap2 (apm b20) (by decide)) (by decide) (fun s20_7 hs20_7 => ?_)
 replace hS := lt_to ((congrArg (List.map StateCommit.pl) hs20_7).trans List.map_append) hS
 refine VL.maApp hs20_7 ?_
 refine VL.back (D' := []) (by kernel_rfl) (Pend.nil) ?_
 refine Zw rfl (q_field gfa41_1 rfl) ?_
 refine VD.one rfl ?_
 refine Zv (vc := [s20_7.val]) (cs' := [a_0.now_work.val, a_0.now_index.val, a_0.now_refs.val, str a_0.now_head_branch, i64 a_0.now_head_commit, str a_0.now_seq_kind, i64 a_0.now_seq_other, str a_0.now_seq_text, a_0.now_seq_doing.val, a_0.now_seq_todo.val, i64 a_0.now_seq_made, str a_0.now_seq_branch, str a_0.now_seq_head_branch, i64 a_0.now_seq_head_commit, a_0.now_seq_index.val, a_0.now_seq_work.val, a_0.now_stash.val, s20_7.val, a_0.log_back.val, a_0.log_forth.val, i64 a_0.time]) rfl gsz36 ?_
 refine VL.back (D' := []) (by kernel_rfl) (Pend.nil) ?_
 cases hS
 exact VD.nil (fin0 (.inl rfl) rfl (⟨a_0.now_work, a_0.now_index, a_0.now_refs, a_0.now_head_branch, a_0.now_head_commit, a_0.now_seq_kind, a_0.now_seq_other, a_0.now_seq_text, a_0.now_seq_doing, a_0.now_seq_todo, a_0.now_seq_made, a_0.now_seq_branch, a_0.now_seq_head_branch, a_0.now_seq_head_commit, a_0.now_seq_index, a_0.now_seq_work, a_0.now_stash, s20_7, a_0.log_back, a_0.log_forth, a_0.time⟩, ⟨q17_4_1.b, q17_4_1.at_, q17_4_1.err⟩, ⟨q7_2_2.bad⟩) rfl rfl (by (try dsimp only); exact InM.out) (by (try dsimp only); exact EntO.out))
theorem state_reader_many_v6_ct (r_0_b : Nat) (r_0 : StateReader) (r_0_dec_b : Nat) (r_0_dec : CodecDec) (one_1_0_b : Nat) (one_1_0 : StateState) (one_1_1_b : Nat) {r : CodecDecP × StateReader × StateStateP} (hS : Sh.state_reader_many_v6 r_0 r_0_dec.pl one_1_0.pl = some r) :
 Ct Tryz.prog 150 [ptr r_0_b 0, .func (.func 187) #[] #[ptr one_1_0_b 0, ptr one_1_1_b 0]] (r_0_dec.b.ok.and (r_0_dec.err.ok.and (one_1_0.now_work.ok.and (one_1_0.now_index.ok.and (one_1_0.now_refs.ok.and (one_1_0.now_seq_doing.ok.and (one_1_0.now_seq_todo.ok.and (one_1_0.now_seq_index.ok.and (one_1_0.now_seq_work.ok.and (one_1_0.now_stash.ok.and ((MAl one_1_0.commits.l).and (one_1_0.log_back.ok.and one_1_0.log_forth.ok)))))))))))) (Ow.star (Blk r_0_dec_b [r_0_dec.b.val, i64 r_0_dec.at_, r_0_dec.err.val] 218) (Ow.star (Blk r_0_b [ptr r_0_dec_b 0, .bool r_0.bad] 160) (Ow.star (Sv.own one_1_0.commits 58) (Ow.star (Blk one_1_0_b (zStateState one_1_0) 41) (Blk one_1_1_b [ptr r_0_b 0] 156))))) (X := CodecDec × StateReader × StateState) (fun x => .tuple #[]) (fun x => r = (x.1.pl, x.2.1, x.2.2.pl)) (fun x => (x.1.b.ok.and (x.1.err.ok.and (x.2.2.now_work.ok.and (x.2.2.now_index.ok.and (x.2.2.now_refs.ok.and (x.2.2.now_seq_doing.ok.and (x.2.2.now_seq_todo.ok.and (x.2.2.now_seq_index.ok.and (x.2.2.now_seq_work.ok.and (x.2.2.now_stash.ok.and ((MAl x.2.2.commits.l).and (x.2.2.log_back.ok.and x.2.2.log_forth.ok))))))))))))) (fun x => Ow.star (Blk r_0_dec_b [x.1.b.val, i64 x.1.at_, x.1.err.val] 218) (Ow.star (Blk r_0_b [ptr r_0_dec_b 0, .bool x.2.1.bad] 160) (Ow.star (Blk one_1_0_b (zStateState x.2.2) 41) (Ow.star (Sv.own x.2.2.commits 58) (Blk one_1_1_b [ptr r_0_b 0] 156))))) := by
 refine Zo Tryz.func150 Tryz.ntmps150 fun c => ?_
 unfold Sh.state_reader_many_v6 at hS
 refine Zq (Zr ?_)
 refine Zm ?_
 refine Zu (q_nilCheck rfl) ?_
 refine Zu (q_field gfa160_0 rfl) ?_
 refine Zu (q_fe gone157 rfl rfl) ?_
 obtain ⟨y10_1, ey10_1, hS⟩ := bd_s hS
 refine VL.callO (codec_Dec_Int_ct r_0_dec_b r_0_dec ey10_1) rfl (by decide) ?_
 rintro ⟨q10_1_0, q10_1_1⟩ rfl
 try dsimp only
 refine Zy ?_
 refine VC.cutJ (S := Bool) (fun (c1_2 : Bool) => c1_2) (fun (c1_2 : Bool) => [(0, ptr r_0_b 0), (1, .func (.func 187) #[] #[ptr one_1_0_b 0, ptr one_1_1_b 0]), (4, i64 q10_1_0)]) (fun (c1_2 : Bool) => Mo.tt) (fun (c1_2 : Bool) => Ow.star (Blk r_0_dec_b [q10_1_1.b.val, i64 q10_1_1.at_, q10_1_1.err.val] 218) (Ow.star (Blk r_0_b [ptr r_0_dec_b 0, .bool c1_2] 160) (Ow.star (Blk one_1_0_b (zStateState one_1_0) 41) (Ow.star (Blk one_1_1_b [ptr r_0_b 0] 156) (Ow.star (Sv.own one_1_0.commits 58) (Ow.emp)))))) hS ?_ ?_
 ·
  clear hS
  intro k3 hS
  refine Zr ?_
  refine Zy ?_
  refine Zu (q_nilCheck rfl) ?_
  refine Zu (q_field gfa160_1 rfl) ?_
  refine Zu (q_fe gone4 rfl rfl) ?_
  refine Zm ?_
  refine Zspb 16 hS (fun h16 hS => ?_) (fun h16 hS => ?_)
  ·
   refine Zy ?_
   refine Zu (q_nilCheck rfl) ?_
   refine Zu (q_field gfa160_1 rfl) ?_
   refine Zv (vc := [.bool true]) (cs' := [ptr r_0_dec_b 0, .bool true]) rfl gsz4 ?_
   refine VL.mt true [0, 1, 4] (fun _ _ h => h) hS rfl
  refine Zg ?_
  refine Zh (q_lss rfl rfl) ?_
  refine Zf ?_
  refine Zu (q_nilCheck rfl) ?_
  refine Zu (q_field gfa160_1 rfl) ?_
  refine Zv (vc := [.bool (decide (q10_1_0 < 0))]) (cs' := [ptr r_0_dec_b 0, .bool (decide (q10_1_0 < 0))]) rfl gsz4 ?_
  refine VL.mt (decide (q10_1_0 < 0)) [0, 1, 4] (fun _ _ h => h) hS rfl
 clear hS
 rintro c1_2 hS
 refine Zq (Zr ?_)
 refine Zy ?_
 refine Zb ?_
 refine VC.iter (S := Int × Sv UInt8 × Int × Er × Bool × Sv FilesFile × Sv IndexEntry × Sv NamesRef × Str × Int × Str × Int × Str × Sv TodoStep × Sv TodoStep × Int × Str × Str × Int × Sv IndexEntry × Sv FilesFile × Sv ShelfShelf × Sv StateCommit × Sv Str × Sv Str × Int) (fun sg => (sg.1, sg.2.1.l, sg.2.2.1, sg.2.2.2.1.pl, sg.2.2.2.2.1, sg.2.2.2.2.2.1.l, sg.2.2.2.2.2.2.1.l, sg.2.2.2.2.2.2.2.1.l, sg.2.2.2.2.2.2.2.2.1, sg.2.2.2.2.2.2.2.2.2.1, sg.2.2.2.2.2.2.2.2.2.2.1, sg.2.2.2.2.2.2.2.2.2.2.2.1, sg.2.2.2.2.2.2.2.2.2.2.2.2.1, sg.2.2.2.2.2.2.2.2.2.2.2.2.2.1.l, sg.2.2.2.2.2.2.2.2.2.2.2.2.2.2.1.l, sg.2.2.2.2.2.2.2.2.2.2.2.2.2.2.2.1, sg.2.2.2.2.2.2.2.2.2.2.2.2.2.2.2.2.1, sg.2.2.2.2.2.2.2.2.2.2.2.2.2.2.2.2.2.1, sg.2.2.2.2.2.2.2.2.2.2.2.2.2.2.2.2.2.2.1, sg.2.2.2.2.2.2.2.2.2.2.2.2.2.2.2.2.2.2.2.1.l, sg.2.2.2.2.2.2.2.2.2.2.2.2.2.2.2.2.2.2.2.2.1.l, (sg.2.2.2.2.2.2.2.2.2.2.2.2.2.2.2.2.2.2.2.2.2.1.l.map ShelfShelf.pl), (sg.2.2.2.2.2.2.2.2.2.2.2.2.2.2.2.2.2.2.2.2.2.2.1.l.map StateCommit.pl), sg.2.2.2.2.2.2.2.2.2.2.2.2.2.2.2.2.2.2.2.2.2.2.2.1.l, sg.2.2.2.2.2.2.2.2.2.2.2.2.2.2.2.2.2.2.2.2.2.2.2.2.1.l, sg.2.2.2.2.2.2.2.2.2.2.2.2.2.2.2.2.2.2.2.2.2.2.2.2.2)) (fun sg => [(0, ptr r_0_b 0), (1, .func (.func 187) #[] #[ptr one_1_0_b 0, ptr one_1_1_b 0]), (4, i64 q10_1_0), (5, i64 sg.1)]) (fun sg => (sg.2.1.ok.and (sg.2.2.2.1.ok.and (sg.2.2.2.2.2.1.ok.and (sg.2.2.2.2.2.2.1.ok.and (sg.2.2.2.2.2.2.2.1.ok.and (sg.2.2.2.2.2.2.2.2.2.2.2.2.2.1.ok.and (sg.2.2.2.2.2.2.2.2.2.2.2.2.2.2.1.ok.and (sg.2.2.2.2.2.2.2.2.2.2.2.2.2.2.2.2.2.2.2.1.ok.and (sg.2.2.2.2.2.2.2.2.2.2.2.2.2.2.2.2.2.2.2.2.1.ok.and (sg.2.2.2.2.2.2.2.2.2.2.2.2.2.2.2.2.2.2.2.2.2.1.ok.and ((MAl sg.2.2.2.2.2.2.2.2.2.2.2.2.2.2.2.2.2.2.2.2.2.2.1.l).and (sg.2.2.2.2.2.2.2.2.2.2.2.2.2.2.2.2.2.2.2.2.2.2.2.1.ok.and sg.2.2.2.2.2.2.2.2.2.2.2.2.2.2.2.2.2.2.2.2.2.2.2.2.1.ok))))))))))))) (fun sg => Ow.star (Blk r_0_dec_b [sg.2.1.val, i64 sg.2.2.1, sg.2.2.2.1.val] 218) (Ow.star (Blk r_0_b [ptr r_0_dec_b 0, .bool sg.2.2.2.2.1] 160) (Ow.star (Blk one_1_0_b [sg.2.2.2.2.2.1.val, sg.2.2.2.2.2.2.1.val, sg.2.2.2.2.2.2.2.1.val, str sg.2.2.2.2.2.2.2.2.1, i64 sg.2.2.2.2.2.2.2.2.2.1, str sg.2.2.2.2.2.2.2.2.2.2.1, i64 sg.2.2.2.2.2.2.2.2.2.2.2.1, str sg.2.2.2.2.2.2.2.2.2.2.2.2.1, sg.2.2.2.2.2.2.2.2.2.2.2.2.2.1.val, sg.2.2.2.2.2.2.2.2.2.2.2.2.2.2.1.val, i64 sg.2.2.2.2.2.2.2.2.2.2.2.2.2.2.2.1, str sg.2.2.2.2.2.2.2.2.2.2.2.2.2.2.2.2.1, str sg.2.2.2.2.2.2.2.2.2.2.2.2.2.2.2.2.2.1, i64 sg.2.2.2.2.2.2.2.2.2.2.2.2.2.2.2.2.2.2.1, sg.2.2.2.2.2.2.2.2.2.2.2.2.2.2.2.2.2.2.2.1.val, sg.2.2.2.2.2.2.2.2.2.2.2.2.2.2.2.2.2.2.2.2.1.val, sg.2.2.2.2.2.2.2.2.2.2.2.2.2.2.2.2.2.2.2.2.2.1.val, sg.2.2.2.2.2.2.2.2.2.2.2.2.2.2.2.2.2.2.2.2.2.2.1.val, sg.2.2.2.2.2.2.2.2.2.2.2.2.2.2.2.2.2.2.2.2.2.2.2.1.val, sg.2.2.2.2.2.2.2.2.2.2.2.2.2.2.2.2.2.2.2.2.2.2.2.2.1.val, i64 sg.2.2.2.2.2.2.2.2.2.2.2.2.2.2.2.2.2.2.2.2.2.2.2.2.2] 41) (Ow.star (Blk one_1_1_b [ptr r_0_b 0] 156) (Ow.star (Sv.own sg.2.2.2.2.2.2.2.2.2.2.2.2.2.2.2.2.2.2.2.2.2.2.1 58) (Ow.emp)))))) (0, q10_1_1.b, q10_1_1.at_, q10_1_1.err, c1_2, one_1_0.now_work, one_1_0.now_index, one_1_0.now_refs, one_1_0.now_head_branch, one_1_0.now_head_commit, one_1_0.now_seq_kind, one_1_0.now_seq_other, one_1_0.now_seq_text, one_1_0.now_seq_doing, one_1_0.now_seq_todo, one_1_0.now_seq_made, one_1_0.now_seq_branch, one_1_0.now_seq_head_branch, one_1_0.now_seq_head_commit, one_1_0.now_seq_index, one_1_0.now_seq_work, one_1_0.now_stash, one_1_0.commits, one_1_0.log_back, one_1_0.log_forth, one_1_0.time) [0, 1, 4, 5] hS rfl ?_
 clear hS
 rintro ⟨i5_4, c0_5, c1_6, c2_7, c1_8, c0_9, c1_10, c2_11, c3_12, c4_13, c5_14, c6_15, c7_16, c8_17, c9_18, c10_19, c11_20, c12_21, c13_22, c14_23, c15_24, c16_25, c17_26, c18_27, c19_28, c20_29⟩ m1 y1 hS hK1
 refine Zq (Zq (Zr ?_))
 refine Zy ?_
 refine Zu (q_lss rfl rfl) ?_
 refine Zm ?_
 refine Zsp 25 hS (fun h25 hS => ?_) (fun h25 hS => ?_)
 ·
  refine Zg ?_
  refine Zh (q_nilCheck rfl) ?_
  refine Zh (q_field gfa160_0 rfl) ?_
  refine Zh (q_fe gone157 rfl rfl) ?_
  refine VL.guard rfl rfl ?_
  obtain ⟨y30_30, ey30_30, hS⟩ := bd_s hS
  refine VL.callO (codec_Dec_Err_ct r_0_dec_b (⟨c0_5, c1_6, c2_7⟩ : CodecDec) ey30_30) rfl (by decide) ?_
  rintro q30_30_0 rfl
  try dsimp only
  refine Zh (q_ereq Tryz.underlying45 rfl) ?_
  refine Zy ?_
  refine VC.keep (ρ' := [(0, ptr r_0_b 0), (1, .func (.func 187) #[] #[ptr one_1_0_b 0, ptr one_1_1_b 0]), (4, i64 q10_1_0), (5, i64 i5_4), (32, .bool (decide (q30_30_0.pl.isNil = true)))]) [0, 1, 4, 5, 32] rfl ?_
  refine Zc hS (fun h32 hS => ?_) (fun h32 hS => ?_)
  ·
   refine Zk ?_
   refine Zq (Zb (Zr ?_))
   refine Zm ?_
   obtain ⟨y36_31, ey36_31, hS⟩ := bd_s hS
   refine VL.callOV (vs := []) (caps := [ptr one_1_0_b 0, ptr one_1_1_b 0]) (state_reader_state_1_ct one_1_0_b (⟨c0_9, c1_10, c2_11, c3_12, c4_13, c5_14, c6_15, c7_16, c8_17, c9_18, c10_19, c11_20, c12_21, c13_22, c14_23, c15_24, c16_25, c17_26, c18_27, c19_28, c20_29⟩ : StateState) one_1_1_b r_0_b (⟨c1_8⟩ : StateReader) r_0_dec_b (⟨c0_5, c1_6, c2_7⟩ : CodecDec) ey36_31) rfl rfl (by decide) ?_
   rintro ⟨q36_31_0, q36_31_1, q36_31_2⟩ rfl
   try dsimp only
   refine Zl ?_
   refine Zr ?_
   refine Zm ?_
   obtain ⟨b34, hS⟩ := gd_s hS
   refine Zu (q_add rfl rfl b34) ?_
   refine Za ?_
   refine VL.rnd ((i5_4 + 1), q36_31_1.b, q36_31_1.at_, q36_31_1.err, q36_31_2.bad, q36_31_0.now_work, q36_31_0.now_index, q36_31_0.now_refs, q36_31_0.now_head_branch, q36_31_0.now_head_commit, q36_31_0.now_seq_kind, q36_31_0.now_seq_other, q36_31_0.now_seq_text, q36_31_0.now_seq_doing, q36_31_0.now_seq_todo, q36_31_0.now_seq_made, q36_31_0.now_seq_branch, q36_31_0.now_seq_head_branch, q36_31_0.now_seq_head_commit, q36_31_0.now_seq_index, q36_31_0.now_seq_work, q36_31_0.now_stash, q36_31_0.commits, q36_31_0.log_back, q36_31_0.log_forth, q36_31_0.time) [0, 1, 4, 5] (fun _ _ h => h) (go2 hS hK1) rfl
  replace hS := up2 hS hK1
  cases hS
  exact VC.exit (fin0 (.inl rfl) rfl (⟨c0_5, c1_6, c2_7⟩, ⟨c1_8⟩, ⟨c0_9, c1_10, c2_11, c3_12, c4_13, c5_14, c6_15, c7_16, c8_17, c9_18, c10_19, c11_20, c12_21, c13_22, c14_23, c15_24, c16_25, c17_26, c18_27, c19_28, c20_29⟩) rfl rfl (by (try dsimp only); exact InM.out) (by (try dsimp only); exact EntO.out))
 refine VL.skips 6 [31] (by kernel_rfl) ?_
 refine Zy ?_
 refine VC.cond_f rfl ?_
 replace hS := up2 hS hK1
 cases hS
 exact VC.exit (fin0 (.inl rfl) rfl (⟨c0_5, c1_6, c2_7⟩, ⟨c1_8⟩, ⟨c0_9, c1_10, c2_11, c3_12, c4_13, c5_14, c6_15, c7_16, c8_17, c9_18, c10_19, c11_20, c12_21, c13_22, c14_23, c15_24, c16_25, c17_26, c18_27, c19_28, c20_29⟩) rfl rfl (by (try dsimp only); exact InM.out) (by (try dsimp only); exact EntO.out))
theorem slices_Clip_state_Commit_state_Commit_ct (s_0 : Sv StateCommit) {r : List StateCommitP} (hS : Sh.slices_Clip_state_Commit_state_Commit (s_0.l.map StateCommit.pl) = some r) :
 Ct Tryz.prog 189 [s_0.val] s_0.ok (Ow.emp) (X := Sv StateCommit) (fun x => x.val) (fun x => r = (x.l.map StateCommit.pl)) (fun x => x.ok) (fun x => Ow.emp) := by
 refine Zo Tryz.func189 Tryz.ntmps189 fun c => ?_
 unfold Sh.slices_Clip_state_Commit_state_Commit at hS
 refine Zq (Zr ?_)
 refine Zy ?_
 refine Zq (Zr ?_)
 refine Zy ?_
 refine Zu (q_lnm StateCommit.pl (s := s_0) Tryz.underlying36 rfl) ?_
 refine Zm ?_
 refine Zu (q_lnm StateCommit.pl (s := s_0) Tryz.underlying36 rfl) ?_
 obtain ⟨b8, hS⟩ := gd_s hS
 refine VL.stom Tryz.underlying36 gsz58 rfl rfl rfl b8.1 (len_m b8.2) (by decide) fun s8_1 hs8_1 => ?_
 replace hS := lt_to ((congrArg (List.map StateCommit.pl) hs8_1).trans List.map_take) hS
 refine Zy ?_
 cases hS
 exact VC.ret (fin1 (.inr rfl) rfl rfl s8_1 rfl rfl (by (try dsimp only); exact InM.out) (fun _ _ => trivial))
theorem state_reader_texts_1_ct (a_0_b : Nat) (a_0 : Sv Str) (a_1_b : Nat) (a_1__b : Nat) (a_1_ : StateReader) (a_1__dec_b : Nat) (a_1__dec : CodecDec) {r : List Str × CodecDecP} (hS : Sh.state_reader_texts_1 a_0.l a_1_ a_1__dec.pl = some r) :
 Ct Tryz.prog 259 [ptr a_0_b 0, ptr a_1_b 0] (a_1__dec.b.ok.and a_1__dec.err.ok) (Ow.star (Sv.own a_0 9) (Ow.star (Blk a_0_b [a_0.val] 37) (Ow.star (Blk a_1__dec_b [a_1__dec.b.val, i64 a_1__dec.at_, a_1__dec.err.val] 218) (Ow.star (Blk a_1__b [ptr a_1__dec_b 0, .bool a_1_.bad] 160) (Blk a_1_b [ptr a_1__b 0] 156))))) (X := Sv Str × CodecDec) (fun x => .tuple #[]) (fun x => r = (x.1.l, x.2.pl)) (fun x => (x.2.b.ok.and x.2.err.ok)) (fun x => Ow.star (Blk a_0_b [x.1.val] 37) (Ow.star (Sv.own x.1 9) (Ow.star (Blk a_1__dec_b [x.2.b.val, i64 x.2.at_, x.2.err.val] 218) (Ow.star (Blk a_1__b [ptr a_1__dec_b 0, .bool a_1_.bad] 160) (Blk a_1_b [ptr a_1__b 0] 156))))) := by
 refine Zo Tryz.func259 Tryz.ntmps259 fun c => ?_
 unfold Sh.state_reader_texts_1 at hS
 refine VC.draw [(0, true), (1, true), (2, true), (3, true), (4, true), (5, false), (6, false), (7, false), (8, false)] mixed (by kernel_rfl) (by kernel_rfl) (by kernel_rfl) ?_
 refine Zw rfl (q_fe gone37 rfl rfl) ?_
 refine Zw rfl (q_fe gone156 rfl rfl) ?_
 refine Zw rfl (q_nilCheck rfl) ?_
 refine Zw rfl (q_field gfa160_0 rfl) ?_
 refine Zw rfl (q_fe gone157 rfl rfl) ?_
 refine VD.one rfl ?_
 obtain ⟨y7_1, ey7_1, hS⟩ := bd_s hS
 refine VL.callO (codec_Dec_Text_ct a_1__dec_b a_1__dec ey7_1) rfl (by decide) ?_
 rintro ⟨q7_1_0, q7_1_1⟩ rfl
 try dsimp only
 refine VL.back (D' := [(0, a_0.val)]) (by kernel_rfl) (Pend.cons rfl (q_fe gone37 rfl rfl) (Pend.nil)) ?_
 refine VD.one rfl ?_
 refine VL.lit (α := Str) (xs := [.tmp 7]) (vs := [str q7_1_0]) [q7_1_0] Tryz.underlying37 glit9 (by decide) rfl rfl rfl rfl (by decide) (fun _ _ _ _ => trivial) (by decide) (fun s8_2 hs8_2 => ?_) (by decide)
 replace hS := lt_to hs8_2 hS
 refine VL.back (D' := [(0, a_0.val)]) (by kernel_rfl) (Pend.cons rfl (q_fe gone37 rfl rfl) (Pend.nil)) ?_
 refine VD.one rfl ?_
 obtain ⟨b9, hS⟩ := gd_s hS
 refine VL.app (s := a_0) (r := s8_2) Tryz.underlying37 gapp9 (by decide) rfl Fo.out (ap1 b9) (ap2 b9 (by decide)) (by decide) (fun s9_4 hs9_4 => ?_)
 replace hS := lt_to hs9_4 hS
 refine VL.back (D' := []) (by kernel_rfl) (Pend.nil) ?_
 refine VD.one rfl ?_
 refine Zv (vc := [s9_4.val]) (cs' := [s9_4.val]) rfl gsz37 ?_
 refine VL.back (D' := []) (by kernel_rfl) (Pend.nil) ?_
 cases hS
 exact VD.nil (fin0 (.inl rfl) rfl (s9_4, ⟨q7_1_1.b, q7_1_1.at_, q7_1_1.err⟩) rfl rfl (by (try dsimp only); exact InM.out) (by (try dsimp only); exact EntO.out))
theorem state_reader_many_v8_ct (r_0_b : Nat) (r_0 : StateReader) (r_0_dec_b : Nat) (r_0_dec : CodecDec) (one_1_0_b : Nat) (one_1_0 : Sv Str) (one_1_1_b : Nat) {r : CodecDecP × StateReader × List Str} (hS : Sh.state_reader_many_v8 r_0 r_0_dec.pl one_1_0.l = some r) :
 Ct Tryz.prog 150 [ptr r_0_b 0, .func (.func 259) #[] #[ptr one_1_0_b 0, ptr one_1_1_b 0]] (r_0_dec.b.ok.and r_0_dec.err.ok) (Ow.star (Blk r_0_dec_b [r_0_dec.b.val, i64 r_0_dec.at_, r_0_dec.err.val] 218) (Ow.star (Blk r_0_b [ptr r_0_dec_b 0, .bool r_0.bad] 160) (Ow.star (Sv.own one_1_0 9) (Ow.star (Blk one_1_0_b [one_1_0.val] 37) (Blk one_1_1_b [ptr r_0_b 0] 156))))) (X := CodecDec × StateReader × Sv Str) (fun x => .tuple #[]) (fun x => r = (x.1.pl, x.2.1, x.2.2.l)) (fun x => (x.1.b.ok.and x.1.err.ok)) (fun x => Ow.star (Blk r_0_dec_b [x.1.b.val, i64 x.1.at_, x.1.err.val] 218) (Ow.star (Blk r_0_b [ptr r_0_dec_b 0, .bool x.2.1.bad] 160) (Ow.star (Blk one_1_0_b [x.2.2.val] 37) (Ow.star (Sv.own x.2.2 9) (Blk one_1_1_b [ptr r_0_b 0] 156))))) := by
 refine Zo Tryz.func150 Tryz.ntmps150 fun c => ?_
 unfold Sh.state_reader_many_v8 at hS
 refine Zq (Zr ?_)
 refine Zm ?_
 refine Zu (q_nilCheck rfl) ?_
 refine Zu (q_field gfa160_0 rfl) ?_
 refine Zu (q_fe gone157 rfl rfl) ?_
 obtain ⟨y10_1, ey10_1, hS⟩ := bd_s hS
 refine VL.callO (codec_Dec_Int_ct r_0_dec_b r_0_dec ey10_1) rfl (by decide) ?_
 rintro ⟨q10_1_0, q10_1_1⟩ rfl
 try dsimp only
 refine Zy ?_
 refine VC.cutJ (S := Bool) (fun (c1_2 : Bool) => c1_2) (fun (c1_2 : Bool) => [(0, ptr r_0_b 0), (1, .func (.func 259) #[] #[ptr one_1_0_b 0, ptr one_1_1_b 0]), (4, i64 q10_1_0)]) (fun (c1_2 : Bool) => Mo.tt) (fun (c1_2 : Bool) => Ow.star (Blk r_0_dec_b [q10_1_1.b.val, i64 q10_1_1.at_, q10_1_1.err.val] 218) (Ow.star (Blk r_0_b [ptr r_0_dec_b 0, .bool c1_2] 160) (Ow.star (Blk one_1_0_b [one_1_0.val] 37) (Ow.star (Blk one_1_1_b [ptr r_0_b 0] 156) (Ow.star (Sv.own one_1_0 9) (Ow.emp)))))) hS ?_ ?_
 ·
  clear hS
  intro k3 hS
  refine Zr ?_
  refine Zy ?_
  refine Zu (q_nilCheck rfl) ?_
  refine Zu (q_field gfa160_1 rfl) ?_
  refine Zu (q_fe gone4 rfl rfl) ?_
  refine Zm ?_
  refine Zspb 16 hS (fun h16 hS => ?_) (fun h16 hS => ?_)
  ·
   refine Zy ?_
   refine Zu (q_nilCheck rfl) ?_
   refine Zu (q_field gfa160_1 rfl) ?_
   refine Zv (vc := [.bool true]) (cs' := [ptr r_0_dec_b 0, .bool true]) rfl gsz4 ?_
   refine VL.mt true [0, 1, 4] (fun _ _ h => h) hS rfl
  refine Zg ?_
  refine Zh (q_lss rfl rfl) ?_
  refine Zf ?_
  refine Zu (q_nilCheck rfl) ?_
  refine Zu (q_field gfa160_1 rfl) ?_
  refine Zv (vc := [.bool (decide (q10_1_0 < 0))]) (cs' := [ptr r_0_dec_b 0, .bool (decide (q10_1_0 < 0))]) rfl gsz4 ?_
  refine VL.mt (decide (q10_1_0 < 0)) [0, 1, 4] (fun _ _ h => h) hS rfl
 clear hS
 rintro c1_2 hS
 refine Zq (Zr ?_)
 refine Zy ?_
 refine Zb ?_
 refine VC.iter (S := Int × Sv UInt8 × Int × Er × Sv Str) (fun sg => (sg.1, sg.2.1.l, sg.2.2.1, sg.2.2.2.1.pl, sg.2.2.2.2.l)) (fun sg => [(0, ptr r_0_b 0), (1, .func (.func 259) #[] #[ptr one_1_0_b 0, ptr one_1_1_b 0]), (4, i64 q10_1_0), (5, i64 sg.1)]) (fun sg => (sg.2.1.ok.and sg.2.2.2.1.ok)) (fun sg => Ow.star (Blk r_0_dec_b [sg.2.1.val, i64 sg.2.2.1, sg.2.2.2.1.val] 218) (Ow.star (Blk r_0_b [ptr r_0_dec_b 0, .bool c1_2] 160) (Ow.star (Blk one_1_0_b [sg.2.2.2.2.val] 37) (Ow.star (Blk one_1_1_b [ptr r_0_b 0] 156) (Ow.star (Sv.own sg.2.2.2.2 9) (Ow.emp)))))) (0, q10_1_1.b, q10_1_1.at_, q10_1_1.err, one_1_0) [0, 1, 4, 5] hS rfl ?_
 clear hS
 rintro ⟨i5_4, c0_5, c1_6, c2_7, c0_8⟩ m1 y1 hS hK1
 refine Zq (Zq (Zr ?_))
 refine Zy ?_
 refine Zu (q_lss rfl rfl) ?_
 refine Zm ?_
 refine Zsp 25 hS (fun h25 hS => ?_) (fun h25 hS => ?_)
 ·
  refine Zg ?_
  refine Zh (q_nilCheck rfl) ?_
  refine Zh (q_field gfa160_0 rfl) ?_
  refine Zh (q_fe gone157 rfl rfl) ?_
  refine VL.guard rfl rfl ?_
  obtain ⟨y30_9, ey30_9, hS⟩ := bd_s hS
  refine VL.callO (codec_Dec_Err_ct r_0_dec_b (⟨c0_5, c1_6, c2_7⟩ : CodecDec) ey30_9) rfl (by decide) ?_
  rintro q30_9_0 rfl
  try dsimp only
  refine Zh (q_ereq Tryz.underlying45 rfl) ?_
  refine Zy ?_
  refine VC.keep (ρ' := [(0, ptr r_0_b 0), (1, .func (.func 259) #[] #[ptr one_1_0_b 0, ptr one_1_1_b 0]), (4, i64 q10_1_0), (5, i64 i5_4), (32, .bool (decide (q30_9_0.pl.isNil = true)))]) [0, 1, 4, 5, 32] rfl ?_
  refine Zc hS (fun h32 hS => ?_) (fun h32 hS => ?_)
  ·
   refine Zk ?_
   refine Zq (Zb (Zr ?_))
   refine Zm ?_
   obtain ⟨y36_10, ey36_10, hS⟩ := bd_s hS
   refine VL.callOV (vs := []) (caps := [ptr one_1_0_b 0, ptr one_1_1_b 0]) (state_reader_texts_1_ct one_1_0_b c0_8 one_1_1_b r_0_b (⟨c1_2⟩ : StateReader) r_0_dec_b (⟨c0_5, c1_6, c2_7⟩ : CodecDec) ey36_10) rfl rfl (by decide) ?_
   rintro ⟨q36_10_0, q36_10_1⟩ rfl
   try dsimp only
   refine Zl ?_
   refine Zr ?_
   refine Zm ?_
   obtain ⟨b34, hS⟩ := gd_s hS
   refine Zu (q_add rfl rfl b34) ?_
   refine Za ?_
   refine VL.rnd ((i5_4 + 1), q36_10_1.b, q36_10_1.at_, q36_10_1.err, q36_10_0) [0, 1, 4, 5] (fun _ _ h => h) (go2 hS hK1) rfl
  replace hS := up2 hS hK1
  cases hS
  exact VC.exit (fin0 (.inl rfl) rfl (⟨c0_5, c1_6, c2_7⟩, ⟨c1_2⟩, c0_8) rfl rfl (by (try dsimp only); exact InM.out) (by (try dsimp only); exact EntO.out))
 refine VL.skips 6 [31] (by kernel_rfl) ?_
 refine Zy ?_
 refine VC.cond_f rfl ?_
 replace hS := up2 hS hK1
 cases hS
 exact VC.exit (fin0 (.inl rfl) rfl (⟨c0_5, c1_6, c2_7⟩, ⟨c1_2⟩, c0_8) rfl rfl (by (try dsimp only); exact InM.out) (by (try dsimp only); exact EntO.out))
theorem slices_Clip_string_string_ct (s_0 : Sv Str) {r : List Str} (hS : Sh.slices_Clip_string_string s_0.l = some r) :
 Ct Tryz.prog 139 [s_0.val] s_0.ok (Ow.emp) (X := Sv Str) (fun x => x.val) (fun x => r = x.l) (fun x => x.ok) (fun x => Ow.emp) := by
 refine Zo Tryz.func139 Tryz.ntmps139 fun c => ?_
 unfold Sh.slices_Clip_string_string at hS
 refine Zq (Zr ?_)
 refine Zy ?_
 refine Zq (Zr ?_)
 refine Zy ?_
 refine Zu (q_ln (s := s_0) Tryz.underlying37 rfl) ?_
 refine Zm ?_
 refine Zu (q_ln (s := s_0) Tryz.underlying37 rfl) ?_
 obtain ⟨b8, hS⟩ := gd_s hS
 refine VL.stom Tryz.underlying37 gsz9 rfl rfl rfl b8.1 (b8.2) (by decide) fun s8_1 hs8_1 => ?_
 replace hS := lt_to hs8_1 hS
 refine Zy ?_
 cases hS
 exact VC.ret (fin1 (.inr rfl) rfl rfl s8_1 rfl rfl (by (try dsimp only); exact InM.out) (fun _ _ => trivial))
theorem state_reader_texts_ct (r_0_b : Nat) (r_0 : StateReader) (r_0_dec_b : Nat) (r_0_dec : CodecDec) {r : List Str × CodecDecP × StateReader} (hS : Sh.state_reader_texts r_0 r_0_dec.pl = some r) :
 Ct Tryz.prog 190 [ptr r_0_b 0] (r_0_dec.b.ok.and r_0_dec.err.ok) (Ow.star (Blk r_0_dec_b [r_0_dec.b.val, i64 r_0_dec.at_, r_0_dec.err.val] 218) (Blk r_0_b [ptr r_0_dec_b 0, .bool r_0.bad] 160)) (X := Sv Str × CodecDec × StateReader) (fun x => x.1.val) (fun x => r = (x.1.l, x.2.1.pl, x.2.2)) (fun x => (x.1.ok.and (x.2.1.b.ok.and x.2.1.err.ok))) (fun x => Ow.star (Blk r_0_dec_b [x.2.1.b.val, i64 x.2.1.at_, x.2.1.err.val] 218) (Blk r_0_b [ptr r_0_dec_b 0, .bool x.2.2.bad] 160)) := by
 refine Zo Tryz.func190 Tryz.ntmps190 fun c => ?_
 unfold Sh.state_reader_texts at hS
 refine Zq (Zr ?_)
 refine VL.box (cs := [ptr r_0_b 0]) rfl rfl (by decide) fun b1_1 => ?_
 refine Zy ?_
 refine Zq (Zr ?_)
 refine VL.alloc (cs := [.slice none 0 0]) (by kernel_rfl) (by decide) fun b3_2 => ?_
 refine Zl ?_
 refine Zq (Zr ?_)
 refine Zu (q_fe gone156 rfl rfl) ?_
 refine Zu (q_mkfn rfl) ?_
 refine VL.nilO (⟨none, 0, []⟩ : Sv Str) 9 ⟨rfl, rfl⟩ ?_
 refine VL.reB b3_2 (cs' := [(⟨none, 0, []⟩ : Sv Str).val]) rfl ?_
 obtain ⟨y6_3, ey6_3, hS⟩ := bd_s hS
 refine VL.callO (state_reader_many_v8_ct r_0_b r_0 r_0_dec_b r_0_dec b3_2 (⟨none, 0, []⟩ : Sv Str) b1_1 ey6_3) rfl (by decide) ?_
 rintro ⟨q6_3_0, q6_3_1, q6_3_2⟩ rfl
 try dsimp only
 refine Zl ?_
 refine Zq (Zr ?_)
 refine Zu (q_fe gone37 rfl rfl) ?_
 refine VL.shut q6_3_2 9 (fun _ _ _ _ => trivial) ?_
 obtain ⟨y8_4, ey8_4, hS⟩ := bd_s hS
 refine VL.callF (slices_Clip_string_string_ct q6_3_2 ey8_4) rfl (by decide) ?_
 rintro q8_4_0 rfl
 try dsimp only
 refine Zy ?_
 cases hS
 exact VC.ret (fin1 (.inr rfl) rfl rfl (q8_4_0, ⟨q6_3_0.b, q6_3_0.at_, q6_3_0.err⟩, ⟨q6_3_1.bad⟩) rfl rfl (by (try dsimp only); exact InM.out) (by (try dsimp only); exact EntO.out))
theorem state_reader_state_ct (r_0_b : Nat) (r_0 : StateReader) (r_0_dec_b : Nat) (r_0_dec : CodecDec) {r : StateStateP × CodecDecP × StateReader} (hS : Sh.state_reader_state r_0 r_0_dec.pl = some r) :
 Ct Tryz.prog 109 [ptr r_0_b 0] (r_0_dec.b.ok.and r_0_dec.err.ok) (Ow.star (Blk r_0_dec_b [r_0_dec.b.val, i64 r_0_dec.at_, r_0_dec.err.val] 218) (Blk r_0_b [ptr r_0_dec_b 0, .bool r_0.bad] 160)) (X := StateState × CodecDec × StateReader) (fun x => .agg (Dat.enc x.1).toArray) (fun x => r = (x.1.pl, x.2.1.pl, x.2.2)) (fun x => (x.1.m.and (x.2.1.b.ok.and x.2.1.err.ok))) (fun x => Ow.star (Blk r_0_dec_b [x.2.1.b.val, i64 x.2.1.at_, x.2.1.err.val] 218) (Blk r_0_b [ptr r_0_dec_b 0, .bool x.2.2.bad] 160)) := by
 refine Zo Tryz.func109 Tryz.ntmps109 fun c => ?_
 unfold Sh.state_reader_state at hS
 refine Zq (Zr ?_)
 refine VL.box (cs := [ptr r_0_b 0]) rfl rfl (by decide) fun b1_1 => ?_
 refine VL.alloc (cs := [.slice none 0 0, .slice none 0 0, .slice none 0 0, str [], i64 0, str [], i64 0, str [], .slice none 0 0, .slice none 0 0, i64 0, str [], str [], i64 0, .slice none 0 0, .slice none 0 0, .slice none 0 0, .slice none 0 0, .slice none 0 0, .slice none 0 0, i64 0]) (by kernel_rfl) (by decide) fun b2_2 => ?_
 refine Zl ?_
 refine Zq (Zr ?_)
 refine Zu (q_fe gone156 rfl rfl) ?_
 obtain ⟨y5_3, ey5_3, hS⟩ := bd_s hS
 refine VL.callO (state_reader_now_ct r_0_b r_0 r_0_dec_b r_0_dec ey5_3) rfl (by decide) ?_
 rintro ⟨q5_3_0, q5_3_1, q5_3_2⟩ rfl
 try dsimp only
 refine Zu (q_build (vs := [(0, .agg (zStateNow q5_3_0).toArray)]) (cs := #[q5_3_0.work.val, q5_3_0.index.val, q5_3_0.refs.val, str q5_3_0.head_branch, i64 q5_3_0.head_commit, str q5_3_0.seq_kind, i64 q5_3_0.seq_other, str q5_3_0.seq_text, q5_3_0.seq_doing.val, q5_3_0.seq_todo.val, i64 q5_3_0.seq_made, str q5_3_0.seq_branch, str q5_3_0.seq_head_branch, i64 q5_3_0.seq_head_commit, q5_3_0.seq_index.val, q5_3_0.seq_work.val, q5_3_0.stash.val, .slice none 0 0, .slice none 0 0, .slice none 0 0, i64 0]) rfl (by kernel_rfl)) ?_
 refine VL.alloc (cs := [.slice none 0 0, .slice none 0 0, .slice none 0 0, str [], i64 0, str [], i64 0, str [], .slice none 0 0, .slice none 0 0, i64 0, str [], str [], i64 0, .slice none 0 0, .slice none 0 0, .slice none 0 0, .slice none 0 0, .slice none 0 0, .slice none 0 0, i64 0]) (by kernel_rfl) (by decide) fun b3_4 => ?_
 refine Zv (vc := [q5_3_0.work.val, q5_3_0.index.val, q5_3_0.refs.val, str q5_3_0.head_branch, i64 q5_3_0.head_commit, str q5_3_0.seq_kind, i64 q5_3_0.seq_other, str q5_3_0.seq_text, q5_3_0.seq_doing.val, q5_3_0.seq_todo.val, i64 q5_3_0.seq_made, str q5_3_0.seq_branch, str q5_3_0.seq_head_branch, i64 q5_3_0.seq_head_commit, q5_3_0.seq_index.val, q5_3_0.seq_work.val, q5_3_0.stash.val, .slice none 0 0, .slice none 0 0, .slice none 0 0, i64 0]) (cs' := [q5_3_0.work.val, q5_3_0.index.val, q5_3_0.refs.val, str q5_3_0.head_branch, i64 q5_3_0.head_commit, str q5_3_0.seq_kind, i64 q5_3_0.seq_other, str q5_3_0.seq_text, q5_3_0.seq_doing.val, q5_3_0.seq_todo.val, i64 q5_3_0.seq_made, str q5_3_0.seq_branch, str q5_3_0.seq_head_branch, i64 q5_3_0.seq_head_commit, q5_3_0.seq_index.val, q5_3_0.seq_work.val, q5_3_0.stash.val, .slice none 0 0, .slice none 0 0, .slice none 0 0, i64 0]) rfl gsz41 ?_
 refine Zl ?_
 refine Zq (Zr ?_)
 refine Zu (q_fe gone156 rfl rfl) ?_
 refine Zu (q_mkfn rfl) ?_
 refine VL.nilO (⟨none, 0, []⟩ : Sv StateCommit) 58 ⟨rfl, rfl⟩ ?_
 refine VL.maNil (s := (⟨none, 0, []⟩ : Sv StateCommit)) rfl ?_
 refine VL.reB b3_4 (cs' := [q5_3_0.work.val, q5_3_0.index.val, q5_3_0.refs.val, str q5_3_0.head_branch, i64 q5_3_0.head_commit, str q5_3_0.seq_kind, i64 q5_3_0.seq_other, str q5_3_0.seq_text, q5_3_0.seq_doing.val, q5_3_0.seq_todo.val, i64 q5_3_0.seq_made, str q5_3_0.seq_branch, str q5_3_0.seq_head_branch, i64 q5_3_0.seq_head_commit, q5_3_0.seq_index.val, q5_3_0.seq_work.val, q5_3_0.stash.val, (⟨none, 0, []⟩ : Sv StateCommit).val, (⟨none, 0, []⟩ : Sv Str).val, (⟨none, 0, []⟩ : Sv Str).val, i64 0]) rfl ?_
 obtain ⟨y9_5, ey9_5, hS⟩ := bd_s hS
 refine VL.callO (state_reader_many_v6_ct r_0_b q5_3_2 r_0_dec_b q5_3_1 b3_4 (⟨q5_3_0.work, q5_3_0.index, q5_3_0.refs, q5_3_0.head_branch, q5_3_0.head_commit, q5_3_0.seq_kind, q5_3_0.seq_other, q5_3_0.seq_text, q5_3_0.seq_doing, q5_3_0.seq_todo, q5_3_0.seq_made, q5_3_0.seq_branch, q5_3_0.seq_head_branch, q5_3_0.seq_head_commit, q5_3_0.seq_index, q5_3_0.seq_work, q5_3_0.stash, (⟨none, 0, []⟩ : Sv StateCommit), (⟨none, 0, []⟩ : Sv Str), (⟨none, 0, []⟩ : Sv Str), 0⟩ : StateState) b1_1 ey9_5) rfl (by decide) ?_
 rintro ⟨q9_5_0, q9_5_1, q9_5_2⟩ rfl
 try dsimp only
 refine Zl ?_
 refine Zq (Zr ?_)
 refine Zu (q_field gfa41_1 rfl) ?_
 refine Zu (q_fe gone36 rfl rfl) ?_
 refine VL.shut q9_5_2.commits 58 (fun h m => InM.out (X := MAl q9_5_2.commits.l) h m) ?_
 obtain ⟨y12_6, ey12_6, hS⟩ := bd_s hS
 refine VL.callF (slices_Clip_state_Commit_state_Commit_ct q9_5_2.commits ey12_6) rfl (by decide) ?_
 rintro q12_6_0 rfl
 try dsimp only
 refine Zu (q_field gfa41_1 rfl) ?_
 refine Zv (vc := [q12_6_0.val]) (cs' := [q9_5_2.now_work.val, q9_5_2.now_index.val, q9_5_2.now_refs.val, str q9_5_2.now_head_branch, i64 q9_5_2.now_head_commit, str q9_5_2.now_seq_kind, i64 q9_5_2.now_seq_other, str q9_5_2.now_seq_text, q9_5_2.now_seq_doing.val, q9_5_2.now_seq_todo.val, i64 q9_5_2.now_seq_made, str q9_5_2.now_seq_branch, str q9_5_2.now_seq_head_branch, i64 q9_5_2.now_seq_head_commit, q9_5_2.now_seq_index.val, q9_5_2.now_seq_work.val, q9_5_2.now_stash.val, q12_6_0.val, q9_5_2.log_back.val, q9_5_2.log_forth.val, i64 q9_5_2.time]) rfl gsz36 ?_
 refine Zl ?_
 refine VC.keep (ρ' := [(1, ptr b1_1 0), (2, ptr b2_2 0), (3, ptr b3_4 0)]) [1, 2, 3] rfl ?_
 refine Zq ?_
 refine VC.draw [(0, true), (2, true), (1, false), (3, false), (4, true), (5, true), (6, false)] mixed (by kernel_rfl) (by kernel_rfl) (by kernel_rfl) ?_
 refine Zw rfl (q_fe gone156 rfl rfl) ?_
 refine Zw rfl (q_fe gone156 rfl rfl) ?_
 refine VD.one rfl ?_
 obtain ⟨y15_7, ey15_7, hS⟩ := bd_s hS
 refine VL.callO (state_reader_texts_ct r_0_b q9_5_1 r_0_dec_b q9_5_0 ey15_7) rfl (by decide) ?_
 rintro ⟨q15_7_0, q15_7_1, q15_7_2⟩ rfl
 try dsimp only
 refine VL.back (D' := [(2, ptr r_0_b 0)]) (by kernel_rfl) (Pend.cons rfl (q_fe gone156 rfl rfl) (Pend.nil)) ?_
 refine VD.one rfl ?_
 obtain ⟨y17_8, ey17_8, hS⟩ := bd_s hS
 refine VL.callO (state_reader_texts_ct r_0_b q15_7_2 r_0_dec_b q15_7_1 ey17_8) rfl (by decide) ?_
 rintro ⟨q17_8_0, q17_8_1, q17_8_2⟩ rfl
 try dsimp only
 refine VL.back (D' := []) (by kernel_rfl) (Pend.nil) ?_
 refine Zw rfl (q_build (vs := [(0, q15_7_0.val), (1, q17_8_0.val)]) (cs := #[q15_7_0.val, q17_8_0.val]) rfl (by kernel_rfl)) ?_
 refine Zw rfl (q_field gfa41_2 rfl) ?_
 refine VD.one rfl ?_
 refine Zv (vc := [q15_7_0.val, q17_8_0.val]) (cs' := [q9_5_2.now_work.val, q9_5_2.now_index.val, q9_5_2.now_refs.val, str q9_5_2.now_head_branch, i64 q9_5_2.now_head_commit, str q9_5_2.now_seq_kind, i64 q9_5_2.now_seq_other, str q9_5_2.now_seq_text, q9_5_2.now_seq_doing.val, q9_5_2.now_seq_todo.val, i64 q9_5_2.now_seq_made, str q9_5_2.now_seq_branch, str q9_5_2.now_seq_head_branch, i64 q9_5_2.now_seq_head_commit, q9_5_2.now_seq_index.val, q9_5_2.now_seq_work.val, q9_5_2.now_stash.val, q12_6_0.val, q15_7_0.val, q17_8_0.val, i64 q9_5_2.time]) rfl gsz39 ?_
 refine VL.back (D' := []) (by kernel_rfl) (Pend.nil) ?_
 refine VD.to (fun _ _ h => h) ?_
 refine Zq (Zr ?_)
 refine Zu (q_fe gone156 rfl rfl) ?_
 refine Zu (q_nilCheck rfl) ?_
 refine Zu (q_field gfa160_0 rfl) ?_
 refine Zu (q_fe gone157 rfl rfl) ?_
 obtain ⟨y24_9, ey24_9, hS⟩ := bd_s hS
 refine VL.callO (codec_Dec_Int_ct r_0_dec_b q17_8_1 ey24_9) rfl (by decide) ?_
 rintro ⟨q24_9_0, q24_9_1⟩ rfl
 try dsimp only
 refine Zu (q_field gfa41_3 rfl) ?_
 refine Zv (vc := [i64 q24_9_0]) (cs' := [q9_5_2.now_work.val, q9_5_2.now_index.val, q9_5_2.now_refs.val, str q9_5_2.now_head_branch, i64 q9_5_2.now_head_commit, str q9_5_2.now_seq_kind, i64 q9_5_2.now_seq_other, str q9_5_2.now_seq_text, q9_5_2.now_seq_doing.val, q9_5_2.now_seq_todo.val, i64 q9_5_2.now_seq_made, str q9_5_2.now_seq_branch, str q9_5_2.now_seq_head_branch, i64 q9_5_2.now_seq_head_commit, q9_5_2.now_seq_index.val, q9_5_2.now_seq_work.val, q9_5_2.now_stash.val, q12_6_0.val, q15_7_0.val, q17_8_0.val, i64 q24_9_0]) rfl gsz3 ?_
 refine Zl ?_
 refine VC.keep (ρ' := [(2, ptr b2_2 0), (3, ptr b3_4 0)]) [2, 3] rfl ?_
 refine Zq (Zr ?_)
 refine Zu (q_fes gagg41 rfl rfl) ?_
 refine Zv (vc := [q9_5_2.now_work.val, q9_5_2.now_index.val, q9_5_2.now_refs.val, str q9_5_2.now_head_branch, i64 q9_5_2.now_head_commit, str q9_5_2.now_seq_kind, i64 q9_5_2.now_seq_other, str q9_5_2.now_seq_text, q9_5_2.now_seq_doing.val, q9_5_2.now_seq_todo.val, i64 q9_5_2.now_seq_made, str q9_5_2.now_seq_branch, str q9_5_2.now_seq_head_branch, i64 q9_5_2.now_seq_head_commit, q9_5_2.now_seq_index.val, q9_5_2.now_seq_work.val, q9_5_2.now_stash.val, q12_6_0.val, q15_7_0.val, q17_8_0.val, i64 q24_9_0]) (cs' := [q9_5_2.now_work.val, q9_5_2.now_index.val, q9_5_2.now_refs.val, str q9_5_2.now_head_branch, i64 q9_5_2.now_head_commit, str q9_5_2.now_seq_kind, i64 q9_5_2.now_seq_other, str q9_5_2.now_seq_text, q9_5_2.now_seq_doing.val, q9_5_2.now_seq_todo.val, i64 q9_5_2.now_seq_made, str q9_5_2.now_seq_branch, str q9_5_2.now_seq_head_branch, i64 q9_5_2.now_seq_head_commit, q9_5_2.now_seq_index.val, q9_5_2.now_seq_work.val, q9_5_2.now_stash.val, q12_6_0.val, q15_7_0.val, q17_8_0.val, i64 q24_9_0]) rfl gsz41 ?_
 refine Zl ?_
 cases hS
 exact VC.ret (finG (vs := [.agg #[q9_5_2.now_work.val, q9_5_2.now_index.val, q9_5_2.now_refs.val, str q9_5_2.now_head_branch, i64 q9_5_2.now_head_commit, str q9_5_2.now_seq_kind, i64 q9_5_2.now_seq_other, str q9_5_2.now_seq_text, q9_5_2.now_seq_doing.val, q9_5_2.now_seq_todo.val, i64 q9_5_2.now_seq_made, str q9_5_2.now_seq_branch, str q9_5_2.now_seq_head_branch, i64 q9_5_2.now_seq_head_commit, q9_5_2.now_seq_index.val, q9_5_2.now_seq_work.val, q9_5_2.now_stash.val, q12_6_0.val, q15_7_0.val, q17_8_0.val, i64 q24_9_0]]) (.inr rfl) rfl (RVs.cell gagg41 rfl rfl Rd.blk (RVs.nil)) (⟨q9_5_2.now_work, q9_5_2.now_index, q9_5_2.now_refs, q9_5_2.now_head_branch, q9_5_2.now_head_commit, q9_5_2.now_seq_kind, q9_5_2.now_seq_other, q9_5_2.now_seq_text, q9_5_2.now_seq_doing, q9_5_2.now_seq_todo, q9_5_2.now_seq_made, q9_5_2.now_seq_branch, q9_5_2.now_seq_head_branch, q9_5_2.now_seq_head_commit, q9_5_2.now_seq_index, q9_5_2.now_seq_work, q9_5_2.now_stash, q12_6_0, q15_7_0, q17_8_0, q24_9_0⟩, ⟨q24_9_1.b, q24_9_1.at_, q24_9_1.err⟩, ⟨q17_8_2.bad⟩) rfl rfl (by (try dsimp only); exact InM.out) (by (try dsimp only); exact EntO.out))
theorem codec_Dec_Left_ct (d_0_b : Nat) (d_0 : CodecDec) {r : Int} (hS : Sh.codec_Dec_Left d_0.pl = some r) :
 Ct Tryz.prog 160 [ptr d_0_b 0] (d_0.b.ok.and (d_0.err.ok.and (Cells d_0_b 0 [d_0.b.val, i64 d_0.at_, d_0.err.val]))) (Ow.emp) (X := Unit) (fun _ => i64 r) (fun _ => True) (fun _ => Mo.tt) (fun _ => Ow.emp) := by
 refine Zo Tryz.func160 Tryz.ntmps160 fun c => ?_
 unfold Sh.codec_Dec_Left at hS
 refine Zq (Zr ?_)
 refine Zy ?_
 refine Zq (Zq (Zr ?_))
 refine Zm ?_
 refine Zu (q_nilCheck rfl) ?_
 refine Zu (q_field gfa218_2 rfl) ?_
 refine Zu (q_fm gone45 rfl rfl) ?_
 refine Zu (q_erne Tryz.underlying45 rfl) ?_
 refine Zl ?_
 refine Zcn hS (fun h7 hS => ?_) (fun h7 hS => ?_)
 ·
  refine Zq ?_
  cases hS
 refine Zk ?_
 refine Zq ?_
 refine VC.draw ((List.range 11).map fun k => (k, true)) mixed (by kernel_rfl) (by kernel_rfl) (by kernel_rfl) ?_
 refine Zw rfl (q_move rfl) ?_
 refine Zw rfl (q_nilCheck rfl) ?_
 refine Zw rfl (q_field gfa218_0 rfl) ?_
 refine Zw rfl (q_fm gone64 rfl rfl) ?_
 refine Zw rfl (q_ln (s := d_0.b) Tryz.underlying64 rfl) ?_
 refine Zw rfl (q_move rfl) ?_
 refine Zw rfl (q_nilCheck rfl) ?_
 refine Zw rfl (q_field gfa218_1 rfl) ?_
 refine Zw rfl (q_fm gone3 rfl rfl) ?_
 obtain ⟨b17, hS⟩ := gd_s hS
 refine Zw rfl (q_sub rfl rfl b17) ?_
 refine Zw rfl (q_assign rfl) ?_
 refine VD.to (fun _ _ h => h) ?_
 refine VC.keep (ρ' := [(2, i64 ((d_0.b.l.length : Int) - d_0.at_))]) [2] rfl ?_
 cases hS
 exact Ze
end Go.Proofs.YtdfbpkpldjpioaaGreatDoor
end
