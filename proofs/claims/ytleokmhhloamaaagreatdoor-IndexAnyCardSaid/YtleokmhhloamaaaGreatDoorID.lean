/- Part of the proofs of: On any entries of an index the program tells what the document tells: whether they may be, their stages, conflicts; as bytes, and back. -/
import Derived.Test.YtleokmhhloamaaaGreatDoorIC
set_option linter.unusedVariables false
set_option linter.unusedSimpArgs false
set_option linter.unusedSectionVars false
section
set_option linter.unusedVariables false
namespace Go.Proofs.YtleokmhhloamaaaGreatDoor
set_option maxHeartbeats 4000000
set_option maxRecDepth 100000
open Go.RowKit Go.V
open Go.S hiding Str
theorem seal_Sum_ct (parts_0 : Sv (Sv UInt8)) {r : Int} (hS : Sh.seal_Sum (parts_0.l.map Sv.l) = some r) :
 Ct Tryz.prog 159 [parts_0.val] parts_0.ok (Ow.emp) (X := Unit) (fun _ => .int .u32 r) (fun _ => True) (fun _ => Mo.tt) (fun _ => Ow.emp) := by
 refine Ct.of Tryz.func159 rfl (by kernel_rfl) Tryz.ntmps159 (by simp) fun c => ?_
 unfold Sh.seal_Sum at hS
 refine Zq (Zr ?_)
 refine Za ?_
 refine Zl ?_
 refine Zq (Zr ?_)
 refine Za ?_
 refine Zl ?_
 refine Zq (Zq (Zr ?_))
 refine Zm ?_
 refine VL.q (q_lnm Sv.l (s := parts_0) Tryz.underlying22 rfl) (by decide) ?_
 refine Zm ?_
 refine Zl ?_
 refine Zb ?_
 refine VC.iter (S := Int × Int) (fun sg => (sg.1, sg.2)) (fun sg => [(3, .int .u32 sg.1), (9, parts_0.val), (10, i64 ((parts_0.l.map Sv.l).length : Int)), (11, i64 sg.2)]) (fun sg => Mo.tt) (fun sg => Ow.emp) (4294967295, 0) [3, 9, 10, 11] hS rfl ?_
 clear hS
 rintro ⟨sum3_1, x11_2⟩ m1 y1 hS hK1
 show VC _ _ _ _ _ [(3, .int .u32 sum3_1), (9, parts_0.val), (10, i64 ((parts_0.l.map Sv.l).length : Int)), (11, i64 x11_2)] (Mo.and Mo.tt _) (Ow.emp)
 refine Zq (Zr ?_)
 refine VL.q (q_lss rfl rfl) (by decide) ?_
 refine Zl ?_
 refine Zq ?_
 refine VC.cond_dec rfl (fun h12 => ?_) (fun h12 => ?_)
 ·
  replace hS := it_t h12 hS
  refine Zk ?_
  refine Zq (Zb (Zq (Zr ?_)))
  obtain ⟨z13_3, nz13_3, hz13_3, hS⟩ := atm_s hS
  refine VL.deep z13_3.ok hz13_3 (fun _ q => q) ?_
  refine VL.q (q_ixm (s := parts_0) Tryz.underlying22 gsz27 rfl rfl nz13_3 (lt_of_get nz13_3 hz13_3)) (by decide) ?_
  refine VL.q (q_el (s := parts_0) gone27 rfl hz13_3 rfl) (by decide) ?_
  refine Za ?_
  refine Zl ?_
  refine Zq (Zr ?_)
  refine Zm ?_
  refine VL.q (q_ln (s := z13_3) Tryz.underlying27 rfl) (by decide) ?_
  refine Zm ?_
  refine Zl ?_
  refine Zb ?_
  refine VC.iter (S := Int × Int) (fun sg => (sg.1, sg.2)) (fun sg => [(3, .int .u32 sg.1), (9, parts_0.val), (10, i64 ((parts_0.l.map Sv.l).length : Int)), (11, i64 x11_2), (15, z13_3.val), (16, i64 (z13_3.l.length : Int)), (17, i64 sg.2)]) (fun sg => Mo.tt) (fun sg => Ow.emp) (sum3_1, 0) [3, 9, 10, 11, 15, 16, 17] hS rfl ?_
  clear hS
  rintro ⟨sum3_4, x17_5⟩ m2 y2 hS hK2
  show VC _ _ _ _ _ [(3, .int .u32 sum3_4), (9, parts_0.val), (10, i64 ((parts_0.l.map Sv.l).length : Int)), (11, i64 x11_2), (15, z13_3.val), (16, i64 (z13_3.l.length : Int)), (17, i64 x17_5)] (Mo.and Mo.tt _) (Ow.emp)
  refine Zq (Zr ?_)
  refine VL.q (q_lss rfl rfl) (by decide) ?_
  refine Zl ?_
  refine Zq ?_
  refine VC.cond_dec rfl (fun h18 => ?_) (fun h18 => ?_)
  ·
   replace hS := it_t h18 hS
   refine Zk ?_
   refine Zq (Zb (Zq (Zr ?_)))
   obtain ⟨z19_6, nz19_6, hz19_6, hS⟩ := at_s hS
   refine VL.q (q_ixm (s := z13_3) Tryz.underlying27 gsz5 rfl rfl nz19_6 (lt_of_get nz19_6 hz19_6)) (by decide) ?_
   refine VL.q (q_el (s := z13_3) gone5 rfl hz19_6 rfl) (by decide) ?_
   refine Za ?_
   refine Zl ?_
   refine Zq (Zr ?_)
   refine Zm ?_
   refine Zm ?_
   refine VL.q (q_convW Tryz.underlying5 Tryz.underlying233 rfl) (by decide) ?_
   refine VL.q (q_xor rfl rfl) (by decide) ?_
   refine Za ?_
   refine Zl ?_
   refine VC.keep [3, 9, 10, 11, 15, 16, 17] rfl ?_
   refine Zq (Zr ?_)
   refine Zm ?_
   refine Zl ?_
   refine Zb ?_
   refine VC.iter (S := Int × Int) (fun sg => (sg.1, sg.2)) (fun sg => [(3, .int .u32 sg.1), (9, parts_0.val), (10, i64 ((parts_0.l.map Sv.l).length : Int)), (11, i64 x11_2), (15, z13_3.val), (16, i64 (z13_3.l.length : Int)), (17, i64 x17_5), (25, i64 sg.2)]) (fun sg => Mo.tt) (fun sg => Ow.emp) ((bXor .u32 sum3_4 (IntKind.wrap .u32 (z19_6.toNat : Int))), 0) [3, 9, 10, 11, 15, 16, 17, 25] hS rfl ?_
   clear hS
   rintro ⟨sum3_7, x25_8⟩ m3 y3 hS hK3
   show VC _ _ _ _ _ [(3, .int .u32 sum3_7), (9, parts_0.val), (10, i64 ((parts_0.l.map Sv.l).length : Int)), (11, i64 x11_2), (15, z13_3.val), (16, i64 (z13_3.l.length : Int)), (17, i64 x17_5), (25, i64 x25_8)] (Mo.and Mo.tt _) (Ow.emp)
   refine Zq (Zr ?_)
   refine VL.q (q_lss rfl rfl) (by decide) ?_
   refine Zl ?_
   refine Zq ?_
   refine VC.cond_dec rfl (fun h26 => ?_) (fun h26 => ?_)
   ·
    replace hS := it_t h26 hS
    refine Zk ?_
    refine Zq (Zb (Zq (Zr ?_)))
    refine Zm ?_
    refine VL.q (q_and rfl rfl) (by decide) ?_
    refine Za ?_
    refine Zl ?_
    refine Zq (Zr ?_)
    refine Zm ?_
    refine VL.q (q_shr rfl rfl (by decide)) (by decide) ?_
    refine Za ?_
    refine Zl ?_
    refine Zq (Zr ?_)
    refine Zm ?_
    refine VL.q (q_eql rfl rfl) (by decide) ?_
    refine Zl ?_
    refine VC.keep [3, 9, 10, 11, 15, 16, 17, 25, 32] rfl ?_
    refine VC.cond_dec rfl (fun h32 => ?_) (fun h32 => ?_)
    ·
     replace hS := it_t h32 hS
     refine Zr ?_
     refine Zm ?_
     refine VL.q (q_xor rfl rfl) (by decide) ?_
     refine Za ?_
     refine Zl ?_
     refine Zr ?_
     obtain ⟨b35, hS⟩ := gd_s hS
     refine VL.q (q_add rfl rfl b35) (by decide) ?_
     refine Zm ?_
     refine VL.rnd ((bXor .u32 (sHr .u32 sum3_7 1) 3988292384), (x25_8 + 1)) [3, 9, 10, 11, 15, 16, 17, 25] (fun _ _ h => h) (go2 hS hK3) rfl
    replace hS := it_f h32 hS
    refine Zk ?_
    refine Zr ?_
    obtain ⟨b35, hS⟩ := gd_s hS
    refine VL.q (q_add rfl rfl b35) (by decide) ?_
    refine Zm ?_
    refine VL.rnd ((sHr .u32 sum3_7 1), (x25_8 + 1)) [3, 9, 10, 11, 15, 16, 17, 25] (fun _ _ h => h) (go2 hS hK3) rfl
   replace hS := it_f h26 hS
   replace hS := up2 hS hK3
   refine Zx ?_
   refine Zr ?_
   obtain ⟨b36, hS⟩ := gd_s hS
   refine VL.q (q_add rfl rfl b36) (by decide) ?_
   refine Zm ?_
   refine VL.rnd (sum3_7, (x17_5 + 1)) [3, 9, 10, 11, 15, 16, 17] (fun _ _ h => h) (go2 hS hK2) rfl
  replace hS := it_f h18 hS
  replace hS := up2 hS hK2
  refine Zx ?_
  refine Zr ?_
  obtain ⟨b37, hS⟩ := gd_s hS
  refine VL.q (q_add rfl rfl b37) (by decide) ?_
  refine Zm ?_
  refine VL.rnd (sum3_4, (x11_2 + 1)) [3, 9, 10, 11] (fun _ _ h => h) (go2 hS hK1) rfl
 replace hS := it_f h12 hS
 replace hS := up2 hS hK1
 refine Zx ?_
 refine Zq (Zr ?_)
 refine Zm ?_
 refine VL.q (q_inot rfl) (by decide) ?_
 refine Za ?_
 refine Zl ?_
 cases hS
 exact Ze
theorem slices_Grow_byte_byte_ct (n_1 : Int) {r : List UInt8} (hS : Sh.slices_Grow_byte_byte n_1 = some r) :
 Ct Tryz.prog 203 [.slice none 0 0, i64 n_1] Mo.tt (Ow.emp) (X := Sv UInt8) (fun x => x.val) (fun x => r = x.l) (fun x => Mo.tt) (fun x => Sv.own x 5) := by
 refine Ct.of Tryz.func203 rfl (by kernel_rfl) Tryz.ntmps203 (by simp) fun c => ?_
 unfold Sh.slices_Grow_byte_byte at hS
 refine Zq (Zr ?_)
 refine Za ?_
 refine Zl ?_
 refine Zq (Zq (Zr ?_))
 refine Zm ?_
 refine VL.q (q_lss rfl rfl) (by decide) ?_
 refine Zl ?_
 refine VC.cond_dec rfl (fun h6 => ?_) (fun h6 => ?_)
 ·
  replace hS := it_t h6 hS
  refine Zr ?_
  refine VL.q (q_mkif Tryz.underlying9 (fun _ h => by cases h) rfl) (by decide) ?_
  cases hS
 replace hS := it_f h6 hS
 refine Zk ?_
 refine Zq (Zq (Zr ?_))
 refine Zm ?_
 refine Zm ?_
 refine VL.q (q_cap0 Tryz.underlying27 rfl) (by decide) ?_
 refine Zm ?_
 refine VL.q (q_len Tryz.underlying27 rfl) (by decide) ?_
 obtain ⟨b13, hS⟩ := gd_s hS
 refine VL.q (q_sub rfl rfl b13) (by decide) ?_
 obtain ⟨b14, hS⟩ := gd_s hS
 refine VL.q (q_sub rfl rfl b14) (by decide) ?_
 refine Za ?_
 refine Zl ?_
 refine VC.keep [0, 1] rfl ?_
 refine Zq (Zr ?_)
 refine Zm ?_
 refine VL.q (q_gtr rfl rfl) (by decide) ?_
 refine Zl ?_
 refine VC.cond_dec rfl (fun h16 => ?_) (fun h16 => ?_)
 ·
  replace hS := it_t h16 hS
  refine Zr ?_
  refine Zm ?_
  refine Zm ?_
  refine VL.q (q_cap0 Tryz.underlying27 rfl) (by decide) ?_
  refine VL.q (q_nil0 UInt8 Tryz.underlying27 gsz5 rfl rfl) (by decide) ?_
  refine Zm ?_
  obtain ⟨b22, hS⟩ := gd_s hS
  refine VL.appZ (α := UInt8) (z := (0 : UInt8)) Tryz.underlying27 Tryz.underlying3 gmk5 (by decide) rfl b22.1 b22.2 (by decide) (by decide) fun s22_1 hs22_1 => ?_
  replace hS := lt_to hs22_1 hS
  refine Zm ?_
  refine VL.q (q_len Tryz.underlying27 rfl) (by decide) ?_
  refine VL.own0 (s := s22_1) Tryz.underlying27 gsz5 rfl rfl Fo.out (by decide) fun s25_3 hs25_3 => ?_
  replace hS := lt_to hs25_3 hS
  refine Za ?_
  refine Zl ?_
  refine VC.keep [0] rfl ?_
  refine Zq (Zr ?_)
  refine Zm ?_
  refine Za ?_
  refine Zl ?_
  cases hS
  exact VC.ret (fin1 (.inr rfl) rfl rfl s25_3 rfl rfl (by (try dsimp only); exact InM.out) (by (try dsimp only); exact EntO.out))
 replace hS := it_f h16 hS
 refine Zk ?_
 refine Zq (Zr ?_)
 refine Zm ?_
 refine Za ?_
 refine Zl ?_
 refine VC.nilO (⟨none, 0, []⟩ : Sv UInt8) 5 ⟨rfl, rfl⟩ ?_
 cases hS
 exact VC.ret (fin1 (.inr rfl) rfl rfl ⟨none, 0, []⟩ rfl rfl (by (try dsimp only); exact InM.out) (by (try dsimp only); exact EntO.out))
theorem slices_Concat_byte_byte_ct (slices_0 : Sv (Sv UInt8)) {r : List UInt8} (hS : Sh.slices_Concat_byte_byte (slices_0.l.map Sv.l) = some r) :
 Ct Tryz.prog 160 [slices_0.val] slices_0.ok (Ow.emp) (X := Sv UInt8) (fun x => x.val) (fun x => r = x.l) (fun x => Mo.tt) (fun x => Sv.own x 5) := by
 refine Ct.of Tryz.func160 rfl (by kernel_rfl) Tryz.ntmps160 (by simp) fun c => ?_
 unfold Sh.slices_Concat_byte_byte at hS
 refine Zq (Zr ?_)
 refine Za ?_
 refine Zl ?_
 refine Zq (Zr ?_)
 refine Za ?_
 refine Zl ?_
 refine Zq (Zq (Zr ?_))
 refine Zm ?_
 refine VL.q (q_lnm Sv.l (s := slices_0) Tryz.underlying22 rfl) (by decide) ?_
 refine Zm ?_
 refine Zl ?_
 refine Zb ?_
 refine VC.iter (S := Int × Int) (fun sg => (sg.1, sg.2)) (fun sg => [(0, slices_0.val), (3, i64 sg.1), (9, slices_0.val), (10, i64 ((slices_0.l.map Sv.l).length : Int)), (11, i64 sg.2)]) (fun sg => Mo.tt) (fun sg => Ow.emp) (0, 0) [0, 3, 9, 10, 11] hS rfl ?_
 clear hS
 rintro ⟨size3_1, x11_2⟩ m1 y1 hS hK1
 show VC _ _ _ _ _ [(0, slices_0.val), (3, i64 size3_1), (9, slices_0.val), (10, i64 ((slices_0.l.map Sv.l).length : Int)), (11, i64 x11_2)] (Mo.and Mo.tt _) (Ow.emp)
 refine Zq (Zr ?_)
 refine VL.q (q_lss rfl rfl) (by decide) ?_
 refine Zl ?_
 refine Zq ?_
 refine VC.cond_dec rfl (fun h12 => ?_) (fun h12 => ?_)
 ·
  replace hS := it_t h12 hS
  refine Zk ?_
  refine Zq (Zb (Zq (Zr ?_)))
  obtain ⟨z13_3, nz13_3, hz13_3, hS⟩ := atm_s hS
  refine VL.deep z13_3.ok hz13_3 (fun _ q => q) ?_
  refine VL.q (q_ixm (s := slices_0) Tryz.underlying22 gsz27 rfl rfl nz13_3 (lt_of_get nz13_3 hz13_3)) (by decide) ?_
  refine VL.q (q_el (s := slices_0) gone27 rfl hz13_3 rfl) (by decide) ?_
  refine Za ?_
  refine Zl ?_
  refine Zq (Zr ?_)
  refine Zm ?_
  refine Zm ?_
  refine VL.q (q_ln (s := z13_3) Tryz.underlying27 rfl) (by decide) ?_
  obtain ⟨b18, hS⟩ := gd_s hS
  refine VL.q (q_add rfl rfl b18) (by decide) ?_
  refine Za ?_
  refine Zl ?_
  refine VC.keep [0, 3, 9, 10, 11] rfl ?_
  refine Zq (Zr ?_)
  refine Zm ?_
  refine VL.q (q_lss rfl rfl) (by decide) ?_
  refine Zl ?_
  refine VC.cond_dec rfl (fun h20 => ?_) (fun h20 => ?_)
  ·
   replace hS := it_t h20 hS
   refine Zr ?_
   refine VL.q (q_mkif Tryz.underlying9 (fun _ h => by cases h) rfl) (by decide) ?_
   cases hS
  replace hS := it_f h20 hS
  refine Zk ?_
  refine Zr ?_
  obtain ⟨b22, hS⟩ := gd_s hS
  refine VL.q (q_add rfl rfl b22) (by decide) ?_
  refine Zm ?_
  refine VL.rnd ((size3_1 + (z13_3.l.length : Int)), (x11_2 + 1)) [0, 3, 9, 10, 11] (fun _ _ h => h) (go2 hS hK1) rfl
 replace hS := it_f h12 hS
 replace hS := up2 hS hK1
 refine Zx ?_
 refine Zq (Zr ?_)
 refine Zm ?_
 obtain ⟨y24_4, ey24_4, hS⟩ := bd_s hS
 refine VL.callO (slices_Grow_byte_byte_ct size3_1 ey24_4) rfl (by decide) ?_
 rintro q24_4_0 rfl
 try dsimp only
 refine Za ?_
 refine Zl ?_
 refine Zq (Zq (Zr ?_))
 refine Zm ?_
 refine VL.q (q_lnm Sv.l (s := slices_0) Tryz.underlying22 rfl) (by decide) ?_
 refine Zm ?_
 refine Zl ?_
 refine VC.keep [6, 25, 26, 27] rfl ?_
 refine Zb ?_
 refine VC.iter (S := Sv UInt8 × Int) (fun sg => (sg.1.l, sg.2)) (fun sg => [(6, sg.1.val), (25, slices_0.val), (26, i64 ((slices_0.l.map Sv.l).length : Int)), (27, i64 sg.2)]) (fun sg => Mo.tt) (fun sg => Ow.star (Sv.own sg.1 5) (Ow.emp)) (q24_4_0, 0) [6, 25, 26, 27] hS rfl ?_
 clear hS
 rintro ⟨newslice6_5, x27_6⟩ m1 y1 hS hK1
 show VC _ _ _ _ _ [(6, newslice6_5.val), (25, slices_0.val), (26, i64 ((slices_0.l.map Sv.l).length : Int)), (27, i64 x27_6)] (Mo.and Mo.tt _) (Ow.star (Sv.own newslice6_5 5) (Ow.emp))
 refine Zq (Zr ?_)
 refine VL.q (q_lss rfl rfl) (by decide) ?_
 refine Zl ?_
 refine Zq ?_
 refine VC.cond_dec rfl (fun h28 => ?_) (fun h28 => ?_)
 ·
  replace hS := it_t h28 hS
  refine Zk ?_
  refine Zq (Zb (Zq (Zr ?_)))
  obtain ⟨z29_7, nz29_7, hz29_7, hS⟩ := atm_s hS
  refine VL.deep z29_7.ok hz29_7 (fun _ q => q) ?_
  refine VL.q (q_ixm (s := slices_0) Tryz.underlying22 gsz27 rfl rfl nz29_7 (lt_of_get nz29_7 hz29_7)) (by decide) ?_
  refine VL.q (q_el (s := slices_0) gone27 rfl hz29_7 rfl) (by decide) ?_
  refine Za ?_
  refine Zl ?_
  refine Zr ?_
  refine Zm ?_
  refine Zm ?_
  obtain ⟨b33, hS⟩ := gd_s hS
  refine VL.app (s := newslice6_5) (r := z29_7) Tryz.underlying27 gapp5 (by decide) rfl Fo.out (ap1 b33) (ap2 b33 (by decide)) (by decide) (fun s33_8 hs33_8 => ?_)
  replace hS := lt_to hs33_8 hS
  refine Za ?_
  refine Zl ?_
  refine VC.keep [6, 25, 26, 27] rfl ?_
  refine Zr ?_
  obtain ⟨b34, hS⟩ := gd_s hS
  refine VL.q (q_add rfl rfl b34) (by decide) ?_
  refine Zm ?_
  refine VL.rnd (s33_8, (x27_6 + 1)) [6, 25, 26, 27] (fun _ _ h => h) (go2 hS hK1) rfl
 replace hS := it_f h28 hS
 replace hS := up2 hS hK1
 refine Zx ?_
 refine Zq (Zr ?_)
 refine Zm ?_
 refine Za ?_
 refine Zl ?_
 cases hS
 exact VC.ret (fin1 (.inr rfl) rfl rfl newslice6_5 rfl rfl (by (try dsimp only); exact InM.out) (by (try dsimp only); exact EntO.out))
theorem seal_Put_ct (b_0 : Sv UInt8) {r : List UInt8} (hS : Sh.seal_Put b_0.l = some r) :
 Ct Tryz.prog 88 [b_0.val] b_0.ok (Ow.emp) (X := Sv UInt8) (fun x => x.val) (fun x => r = x.l) (fun x => Mo.tt) (fun x => Sv.own x 5) := by
 refine Ct.of Tryz.func88 rfl (by kernel_rfl) Tryz.ntmps88 (by simp) fun c => ?_
 unfold Sh.seal_Put at hS
 refine Zq (Zr ?_)
 refine Za ?_
 refine Zl ?_
 refine Zq (Zr ?_)
 refine Zm ?_
 refine VL.lit (α := Sv UInt8) (xs := [.tmp 4]) (vs := [b_0.val]) [b_0] Tryz.underlying22 glit27 (by decide) rfl rfl rfl rfl (by decide) (fun h m => List.forall_mem_cons.2 ⟨InM.out (X := b_0.ok) h m, fun _ h => by cases h⟩) (by decide) (fun s5_1 hs5_1 => ?_) (by decide)
 replace hS := lt_to (congrArg (List.map Sv.l) hs5_1) hS
 obtain ⟨y6_3, ey6_3, hS⟩ := bd_s hS
 refine VL.q (q_call (seal_Sum_ct s5_1 ey6_3) rfl (fun _ _ => rfl)) (by decide) ?_
 refine Za ?_
 refine Zl ?_
 refine Zq (Zr ?_)
 refine Zm ?_
 refine Zm ?_
 refine VL.q (q_convW Tryz.underlying233 Tryz.underlying5 rfl) (by decide) ?_
 refine Zm ?_
 refine VL.q (q_shr rfl rfl (by decide)) (by decide) ?_
 refine VL.q (q_convW Tryz.underlying233 Tryz.underlying5 rfl) (by decide) ?_
 refine Zm ?_
 refine VL.q (q_shr rfl rfl (by decide)) (by decide) ?_
 refine VL.q (q_convW Tryz.underlying233 Tryz.underlying5 rfl) (by decide) ?_
 refine Zm ?_
 refine VL.q (q_shr rfl rfl (by decide)) (by decide) ?_
 refine VL.q (q_convW Tryz.underlying233 Tryz.underlying5 rfl) (by decide) ?_
 obtain ⟨b19_9, hS⟩ := gd_s hS
 obtain ⟨u19_5, eu19_5, hS⟩ := lt_s hS
 refine VL.setv 9 rfl (congrArg (Value.int .u8) (u8_z b19_9 eu19_5)) ?_
 obtain ⟨b19_12, hS⟩ := gd_s hS
 obtain ⟨u19_6, eu19_6, hS⟩ := lt_s hS
 refine VL.setv 12 rfl (congrArg (Value.int .u8) (u8_z b19_12 eu19_6)) ?_
 obtain ⟨b19_15, hS⟩ := gd_s hS
 obtain ⟨u19_7, eu19_7, hS⟩ := lt_s hS
 refine VL.setv 15 rfl (congrArg (Value.int .u8) (u8_z b19_15 eu19_7)) ?_
 obtain ⟨b19_18, hS⟩ := gd_s hS
 obtain ⟨u19_8, eu19_8, hS⟩ := lt_s hS
 refine VL.setv 18 rfl (congrArg (Value.int .u8) (u8_z b19_18 eu19_8)) ?_
 refine VL.lit (α := UInt8) (xs := [.tmp 9, .tmp 12, .tmp 15, .tmp 18]) (vs := [.int .u8 (u19_5.toNat : Int), .int .u8 (u19_6.toNat : Int), .int .u8 (u19_7.toNat : Int), .int .u8 (u19_8.toNat : Int)]) [u19_5, u19_6, u19_7, u19_8] Tryz.underlying27 glit5 (by decide) rfl rfl rfl rfl (by decide) (fun _ _ _ _ => trivial) (by decide) (fun s19_4 hs19_4 => ?_) (by decide)
 replace hS := lt_to hs19_4 hS
 refine VL.lit (α := Sv UInt8) (xs := [.tmp 7, .tmp 19]) (vs := [b_0.val, s19_4.val]) [b_0, s19_4] Tryz.underlying22 glit27 (by decide) rfl rfl rfl rfl (by decide) (fun h m => List.forall_mem_cons.2 ⟨InM.out (X := b_0.ok) h m, List.forall_mem_cons.2 ⟨InM.out (X := s19_4.ok) h m, fun _ h => by cases h⟩⟩) (by decide) (fun s20_10 hs20_10 => ?_) (by decide)
 replace hS := lt_to (congrArg (List.map Sv.l) hs20_10) hS
 obtain ⟨y21_12, ey21_12, hS⟩ := bd_s hS
 refine VL.callO (slices_Concat_byte_byte_ct s20_10 ey21_12) rfl (by decide) ?_
 rintro q21_12_0 rfl
 try dsimp only
 refine Za ?_
 refine Zl ?_
 refine VC.keep [2] rfl ?_
 cases hS
 exact VC.ret (fin1 (.inr rfl) rfl rfl q21_12_0 rfl rfl (by (try dsimp only); exact InM.out) (by (try dsimp only); exact EntO.out))
theorem index_Encode_ct (l_0 : Sv IndexEntry) {r : List UInt8 × Err} (hS : Sh.index_Encode l_0.l = some r) :
 Ct Tryz.prog 36 [l_0.val] l_0.ok (Ow.emp) (X := Sv UInt8 × Er) (fun x => .tuple #[x.1.val, x.2.val]) (fun x => r = (x.1.l, x.2.pl)) (fun x => x.2.ok) (fun x => Sv.own x.1 5) := by
 refine Ct.of Tryz.func36 rfl (by kernel_rfl) Tryz.ntmps36 (by simp) fun c => ?_
 unfold Sh.index_Encode at hS
 refine Zq (Zr ?_)
 refine Za ?_
 refine Za ?_
 refine Zl ?_
 refine Zq (Zq (Zr ?_))
 refine Zm ?_
 obtain ⟨y9_1, ey9_1, hS⟩ := bd_s hS
 refine VL.callF (index_Check_ct l_0 ey9_1) rfl (by decide) ?_
 rintro q9_1_0 rfl
 try dsimp only
 refine Za ?_
 refine Zl ?_
 refine Zq (Zr ?_)
 refine Zm ?_
 refine VL.q (q_erne Tryz.underlying29 rfl) (by decide) ?_
 refine Zl ?_
 refine VC.cond_ndec rfl (fun h11 => ?_) (fun h11 => ?_)
 ·
  replace hS := it_f h11 hS
  refine Zq (Zr ?_)
  refine Zm ?_
  refine Za ?_
  refine Za ?_
  refine Zl ?_
  refine VC.nilO (⟨none, 0, []⟩ : Sv UInt8) 5 ⟨rfl, rfl⟩ ?_
  cases hS
  exact VC.ret (fin2 (.inr rfl) rfl rfl rfl (⟨none, 0, []⟩, q9_1_0) rfl rfl (by (try dsimp only); exact InM.out) (by (try dsimp only); exact EntO.out))
 replace hS := it_t h11 hS
 refine Zk ?_
 refine Zq (Zr ?_)
 refine VL.alloc (cs := [.slice none 0 0]) (by kernel_rfl) (by decide) fun b5_2 => ?_
 refine Zl ?_
 refine Zq (Zr ?_)
 refine Zm ?_
 refine VL.q (q_ln (s := l_0) Tryz.underlying66 rfl) (by decide) ?_
 refine VL.lit (α := Int) (xs := [.tmp 14]) (vs := [i64 (l_0.l.length : Int)]) [(l_0.l.length : Int)] Tryz.underlying26 glit3 (by decide) rfl rfl rfl rfl (by decide) (fun _ _ _ _ => trivial) (by decide) (fun s15_3 hs15_3 => ?_) (by decide)
 replace hS := lt_to hs15_3 hS
 refine VL.nilO (⟨none, 0, []⟩ : Sv UInt8) 5 ⟨rfl, rfl⟩ ?_
 refine VL.reB b5_2 (cs' := [(⟨none, 0, []⟩ : Sv UInt8).val]) rfl ?_
 obtain ⟨y16_5, ey16_5, hS⟩ := bd_s hS
 refine VL.callO (codec_Enc_Int_ct b5_2 (⟨(⟨none, 0, []⟩ : Sv UInt8)⟩ : CodecEnc) s15_3 ey16_5) rfl (by decide) ?_
 rintro q16_5_0 rfl
 try dsimp only
 refine Zl ?_
 refine VC.keep [0, 5] rfl ?_
 refine Zq (Zq (Zr ?_))
 refine Zm ?_
 refine VL.q (q_ln (s := l_0) Tryz.underlying66 rfl) (by decide) ?_
 refine Zm ?_
 refine Zl ?_
 refine Zb ?_
 refine VC.iter (S := Int × Sv UInt8) (fun sg => (sg.1, sg.2.l)) (fun sg => [(5, ptr b5_2 0), (17, l_0.val), (18, i64 (l_0.l.length : Int)), (19, i64 sg.1)]) (fun sg => Mo.tt) (fun sg => Ow.star (Blk b5_2 [sg.2.val] 155) (Ow.star (Sv.own sg.2 5) (Ow.emp))) (0, q16_5_0.b) [5, 17, 18, 19] hS rfl ?_
 clear hS
 rintro ⟨x19_6, c0_7⟩ m1 y1 hS hK1
 show VC _ _ _ _ _ [(5, ptr b5_2 0), (17, l_0.val), (18, i64 (l_0.l.length : Int)), (19, i64 x19_6)] (Mo.and Mo.tt _) (Ow.star (Blk b5_2 [c0_7.val] 155) (Ow.star (Sv.own c0_7 5) (Ow.emp)))
 refine Zq (Zr ?_)
 refine VL.q (q_lss rfl rfl) (by decide) ?_
 refine Zl ?_
 refine Zq ?_
 refine VC.cond_dec rfl (fun h20 => ?_) (fun h20 => ?_)
 ·
  replace hS := it_t h20 hS
  refine Zk ?_
  refine Zq (Zb (Zq (Zr ?_)))
  obtain ⟨z21_8, nz21_8, hz21_8, hS⟩ := at_s hS
  refine VL.q (q_ixm (s := l_0) Tryz.underlying66 gsz149 rfl rfl nz21_8 (lt_of_get nz21_8 hz21_8)) (by decide) ?_
  refine VL.q (q_els (s := l_0) gagg149 rfl rfl hz21_8) (by decide) ?_
  refine VL.alloc (cs := [str [], i64 0, i64 0, str [], i64 0, i64 0]) (by kernel_rfl) (by decide) fun b7_9 => ?_
  refine VL.store (vc := [str z21_8.path, i64 z21_8.stage, i64 z21_8.mode, str z21_8.data, i64 z21_8.time, i64 z21_8.size]) (cs' := [str z21_8.path, i64 z21_8.stage, i64 z21_8.mode, str z21_8.data, i64 z21_8.time, i64 z21_8.size]) rfl rfl rfl gsz149 rfl rfl (Nat.le_of_ble_eq_true rfl) rfl ?_
  refine Zl ?_
  refine Zq (Zr ?_)
  refine VL.q (q_field gfa149_0 rfl) (by decide) ?_
  refine VL.q (q_fe gone9 rfl rfl) (by decide) ?_
  refine VL.lit (α := Str) (xs := [.tmp 24]) (vs := [str z21_8.path]) [z21_8.path] Tryz.underlying82 glit9 (by decide) rfl rfl rfl rfl (by decide) (fun _ _ _ _ => trivial) (by decide) (fun s25_10 hs25_10 => ?_) (by decide)
  replace hS := lt_to hs25_10 hS
  obtain ⟨y26_12, ey26_12, hS⟩ := bd_s hS
  refine VL.callO (codec_Enc_Text_ct b5_2 (⟨c0_7⟩ : CodecEnc) s25_10 ey26_12) rfl (by decide) ?_
  rintro q26_12_0 rfl
  try dsimp only
  refine Zl ?_
  refine VC.keep [5, 17, 18, 19, 7] rfl ?_
  refine Zq (Zr ?_)
  refine VL.q (q_field gfa149_1 rfl) (by decide) ?_
  refine VL.q (q_fe gone3 rfl rfl) (by decide) ?_
  refine VL.q (q_field gfa149_2 rfl) (by decide) ?_
  refine VL.q (q_fe gone3 rfl rfl) (by decide) ?_
  refine VL.lit (α := Int) (xs := [.tmp 28, .tmp 30]) (vs := [i64 z21_8.stage, i64 z21_8.mode]) [z21_8.stage, z21_8.mode] Tryz.underlying26 glit3 (by decide) rfl rfl rfl rfl (by decide) (fun _ _ _ _ => trivial) (by decide) (fun s31_13 hs31_13 => ?_) (by decide)
  replace hS := lt_to hs31_13 hS
  obtain ⟨y32_15, ey32_15, hS⟩ := bd_s hS
  refine VL.callO (codec_Enc_Int_ct b5_2 q26_12_0 s31_13 ey32_15) rfl (by decide) ?_
  rintro q32_15_0 rfl
  try dsimp only
  refine Zl ?_
  refine Zq (Zr ?_)
  refine VL.q (q_field gfa149_3 rfl) (by decide) ?_
  refine VL.q (q_fe gone9 rfl rfl) (by decide) ?_
  refine VL.lit (α := Str) (xs := [.tmp 34]) (vs := [str z21_8.data]) [z21_8.data] Tryz.underlying82 glit9 (by decide) rfl rfl rfl rfl (by decide) (fun _ _ _ _ => trivial) (by decide) (fun s35_16 hs35_16 => ?_) (by decide)
  replace hS := lt_to hs35_16 hS
  obtain ⟨y36_18, ey36_18, hS⟩ := bd_s hS
  refine VL.callO (codec_Enc_Text_ct b5_2 q32_15_0 s35_16 ey36_18) rfl (by decide) ?_
  rintro q36_18_0 rfl
  try dsimp only
  refine Zl ?_
  refine VC.keep [5, 17, 18, 19, 7] rfl ?_
  refine Zr ?_
  refine VL.q (q_field gfa149_4 rfl) (by decide) ?_
  refine VL.q (q_fe gone3 rfl rfl) (by decide) ?_
  refine VL.q (q_field gfa149_5 rfl) (by decide) ?_
  refine VL.q (q_fe gone3 rfl rfl) (by decide) ?_
  refine VL.lit (α := Int) (xs := [.tmp 38, .tmp 40]) (vs := [i64 z21_8.time, i64 z21_8.size]) [z21_8.time, z21_8.size] Tryz.underlying26 glit3 (by decide) rfl rfl rfl rfl (by decide) (fun _ _ _ _ => trivial) (by decide) (fun s41_19 hs41_19 => ?_) (by decide)
  replace hS := lt_to hs41_19 hS
  obtain ⟨y42_21, ey42_21, hS⟩ := bd_s hS
  refine VL.callO (codec_Enc_Int_ct b5_2 q36_18_0 s41_19 ey42_21) rfl (by decide) ?_
  rintro q42_21_0 rfl
  try dsimp only
  refine Zl ?_
  refine VC.keep [5, 17, 18, 19] rfl ?_
  refine Zr ?_
  obtain ⟨b43, hS⟩ := gd_s hS
  refine VL.q (q_add rfl rfl b43) (by decide) ?_
  refine Zm ?_
  refine VL.rnd ((x19_6 + 1), q42_21_0.b) [5, 17, 18, 19] (fun _ _ h => h) (go2 hS hK1) rfl
 replace hS := it_f h20 hS
 replace hS := up2 hS hK1
 refine Zx ?_
 refine Zq (Zr ?_)
 obtain ⟨y44_22, ey44_22, hS⟩ := bd_s hS
 refine VL.callO (codec_Enc_Bytes_ct b5_2 (⟨c0_7⟩ : CodecEnc) ey44_22) rfl (by decide) ?_
 rintro q44_22_0 rfl
 try dsimp only
 obtain ⟨y45_23, ey45_23, hS⟩ := bd_s hS
 refine VL.callO (seal_Put_ct q44_22_0 ey45_23) rfl (by decide) ?_
 rintro q45_23_0 rfl
 try dsimp only
 refine Za ?_
 refine Za ?_
 refine Zl ?_
 cases hS
 exact VC.ret (fin2 (.inr rfl) rfl rfl rfl (q45_23_0, .nil) rfl rfl (by (try dsimp only); exact InM.out) (by (try dsimp only); exact EntO.out))
theorem bytes_Equal_ct (a_0 : Sv UInt8) (b_1 : Sv UInt8) {r : Bool} (hS : Sh.bytes_Equal a_0.l b_1.l = some r) :
 Ct Tryz.prog 114 [a_0.val, b_1.val] (a_0.ok.and b_1.ok) (Ow.emp) (X := Unit) (fun _ => .bool r) (fun _ => True) (fun _ => Mo.tt) (fun _ => Ow.emp) := by
 refine Ct.of Tryz.func114 rfl (by kernel_rfl) Tryz.ntmps114 (by simp) fun c => ?_
 unfold Sh.bytes_Equal at hS
 refine Zq (Zr ?_)
 refine Za ?_
 refine Zl ?_
 refine Zq (Zr ?_)
 refine Zm ?_
 refine VL.q (q_b2s (s := a_0) Tryz.underlying27 Tryz.underlying5 Tryz.underlying9 rfl) (by decide) ?_
 refine Zm ?_
 refine VL.q (q_b2s (s := b_1) Tryz.underlying27 Tryz.underlying5 Tryz.underlying9 rfl) (by decide) ?_
 refine Zs ?_
 refine Za ?_
 refine Zl ?_
 cases hS
 exact Ze
theorem seal_Open_ct (b_0 : Sv UInt8) {r : List UInt8 × Err} (hS : Sh.seal_Open b_0.l = some r) :
 Ct Tryz.prog 94 [b_0.val] b_0.ok (Ow.emp) (X := Sv UInt8 × Er) (fun x => .tuple #[x.1.val, x.2.val]) (fun x => r = (x.1.l, x.2.pl)) (fun x => (x.1.ok.and x.2.ok)) (fun x => Ow.emp) := by
 refine Ct.of Tryz.func94 rfl (by kernel_rfl) Tryz.ntmps94 (by simp) fun c => ?_
 unfold Sh.seal_Open at hS
 refine Zq (Zr ?_)
 refine Za ?_
 refine Za ?_
 refine Zl ?_
 refine Zq (Zq (Zr ?_))
 refine Zm ?_
 refine VL.q (q_ln (s := b_0) Tryz.underlying27 rfl) (by decide) ?_
 refine VL.q (q_lss rfl rfl) (by decide) ?_
 refine Zl ?_
 refine VC.cond_dec rfl (fun h7 => ?_) (fun h7 => ?_)
 ·
  replace hS := it_t h7 hS
  refine Zq (Zr ?_)
  refine Zm ?_
  refine VL.q (q_ln (s := b_0) Tryz.underlying27 rfl) (by decide) ?_
  refine VL.q (q_mkif Tryz.underlying115 (fun _ h => by cases h) rfl) (by decide) ?_
  refine VL.q (q_build (vs := [(0, str [115, 117, 109]), (1, i64 (b_0.l.length : Int)), (2, (Er.no 3).val)]) (cs := #[str [115, 117, 109], i64 (b_0.l.length : Int), (Er.no 3).val]) rfl (by kernel_rfl)) (by decide) ?_
  refine VL.box (cs := [str [115, 117, 109], i64 (b_0.l.length : Int), (Er.no 3).val]) rfl rfl (by decide) fun b12_1 => ?_
  refine VL.shutB b12_1 ?_
  refine VL.q (q_mkif Tryz.underlying114 (fun _ h => by cases h) rfl) (by decide) ?_
  refine Za ?_
  refine Za ?_
  refine Zl ?_
  refine VC.keep [2, 3] rfl ?_
  cases hS
  exact VC.ret (fin2 (.inr rfl) rfl rfl rfl (⟨none, 0, []⟩, (Er.fault b12_1 [115, 117, 109] (b_0.l.length : Int) (Er.no 3))) rfl rfl (by (try dsimp only); exact InM.out) (fun _ _ => trivial))
 replace hS := it_f h7 hS
 refine Zk ?_
 refine Zq (Zr ?_)
 refine Zm ?_
 refine Zm ?_
 refine VL.q (q_ln (s := b_0) Tryz.underlying27 rfl) (by decide) ?_
 obtain ⟨b17, hS⟩ := gd_s hS
 refine VL.q (q_sub rfl rfl b17) (by decide) ?_
 obtain ⟨b18, hS⟩ := gd_s hS
 refine VL.sto Tryz.underlying27 gsz5 rfl rfl b18.1 (b18.2) (by decide) fun s18_2 hs18_2 => ?_
 replace hS := lt_to hs18_2 hS
 refine Za ?_
 refine Zl ?_
 refine VC.keep [0, 4] rfl ?_
 refine Zq (Zq (Zr ?_))
 refine Zm ?_
 obtain ⟨y20_4, ey20_4, hS⟩ := bd_s hS
 refine VL.callO (seal_Put_ct s18_2 ey20_4) rfl (by decide) ?_
 rintro q20_4_0 rfl
 try dsimp only
 refine Zm ?_
 obtain ⟨y22_5, ey22_5, hS⟩ := bd_s hS
 refine VL.q (q_callR (bytes_Equal_ct q20_4_0 b_0 ey22_5) rfl (fun _ _ => rfl)) (by decide) ?_
 refine VL.q (q_not rfl) (by decide) ?_
 refine Zl ?_
 refine VC.cond rfl (fun h23 => ?_) (fun h23 => ?_)
 ·
  replace hS := it_t h23 hS
  refine Zq (Zr ?_)
  refine Zm ?_
  refine VL.q (q_ln (s := b_0) Tryz.underlying27 rfl) (by decide) ?_
  refine VL.q (q_mkif Tryz.underlying115 (fun _ h => by cases h) rfl) (by decide) ?_
  refine VL.q (q_build (vs := [(0, str [115, 117, 109]), (1, i64 (b_0.l.length : Int)), (2, (Er.no 12).val)]) (cs := #[str [115, 117, 109], i64 (b_0.l.length : Int), (Er.no 12).val]) rfl (by kernel_rfl)) (by decide) ?_
  refine VL.box (cs := [str [115, 117, 109], i64 (b_0.l.length : Int), (Er.no 12).val]) rfl rfl (by decide) fun b28_6 => ?_
  refine VL.shutB b28_6 ?_
  refine VL.q (q_mkif Tryz.underlying114 (fun _ h => by cases h) rfl) (by decide) ?_
  refine Za ?_
  refine Za ?_
  refine Zl ?_
  refine VC.keep [2, 3] rfl ?_
  cases hS
  exact VC.ret (fin2 (.inr rfl) rfl rfl rfl (⟨none, 0, []⟩, (Er.fault b28_6 [115, 117, 109] (b_0.l.length : Int) (Er.no 12))) rfl rfl (by (try dsimp only); exact InM.out) (fun _ _ => trivial))
 replace hS := it_b h23 hS
 refine Zk ?_
 refine Zq (Zr ?_)
 refine Zm ?_
 obtain ⟨y31_7, ey31_7, hS⟩ := bd_s hS
 refine VL.callO (slices_Clone_byte_byte_ct s18_2 ey31_7) rfl (by decide) ?_
 rintro q31_7_0 rfl
 try dsimp only
 refine VL.shut q31_7_0 5 (fun _ _ _ _ => trivial) ?_
 obtain ⟨y32_8, ey32_8, hS⟩ := bd_s hS
 refine VL.callF (slices_Clip_byte_byte_ct q31_7_0 ey32_8) rfl (by decide) ?_
 rintro q32_8_0 rfl
 try dsimp only
 refine Za ?_
 refine Za ?_
 refine Zl ?_
 refine VC.keep [2, 3] rfl ?_
 cases hS
 exact VC.ret (fin2 (.inr rfl) rfl rfl rfl (q32_8_0, .nil) rfl rfl (by (try dsimp only); exact InM.out) (fun _ _ => trivial))
theorem codec_Of_ct (b_0 : Sv UInt8) {r : CodecDecP} (hS : Sh.codec_Of b_0.l = some r) :
 Ct Tryz.prog 95 [b_0.val] b_0.ok (Ow.emp) (X := Nat × CodecDec) (fun x => ptr x.1 0) (fun x => r = x.2.pl) (fun x => (x.2.b.ok.and x.2.err.ok)) (fun x => Blk x.1 [x.2.b.val, i64 x.2.at_, x.2.err.val] 239) := by
 refine Ct.of Tryz.func95 rfl (by kernel_rfl) Tryz.ntmps95 (by simp) fun c => ?_
 unfold Sh.codec_Of at hS
 refine Zq (Zr ?_)
 refine Za ?_
 refine Zl ?_
 refine Zq (Zr ?_)
 refine Zm ?_
 obtain ⟨y4_1, ey4_1, hS⟩ := bd_s hS
 refine VL.callO (slices_Clone_byte_byte_ct b_0 ey4_1) rfl (by decide) ?_
 rintro q4_1_0 rfl
 try dsimp only
 refine VL.q (q_build (vs := [(0, q4_1_0.val)]) (cs := #[q4_1_0.val, i64 0, .nilIface]) rfl (by kernel_rfl)) (by decide) ?_
 refine VL.box (cs := [q4_1_0.val, i64 0, .nilIface]) rfl rfl (by decide) fun b6_2 => ?_
 refine Za ?_
 refine Zl ?_
 refine VC.shut q4_1_0 5 (fun _ _ _ _ => trivial) ?_
 refine VC.reB b6_2 (cs' := [q4_1_0.val, i64 0, (Er.nil).val]) rfl ?_
 cases hS
 exact VC.ret (fin1 (.inr rfl) rfl rfl (b6_2, ⟨q4_1_0, 0, (Er.nil)⟩) rfl rfl (by (try dsimp only); exact InM.out) (by (try dsimp only); exact EntO.out))
theorem codec_Dec_uint_ct (d_0_b : Nat) (d_0 : CodecDec) {r : Int × Int × CodecDecP} (hS : Sh.codec_Dec_uint d_0.pl = some r) :
 Ct Tryz.prog 166 [ptr d_0_b 0] (d_0.b.ok.and d_0.err.ok) (Blk d_0_b [d_0.b.val, i64 d_0.at_, d_0.err.val] 239) (X := Int × Int × CodecDec) (fun x => .tuple #[.int .u64 x.1, i64 x.2.1]) (fun x => r = (x.1, x.2.1, x.2.2.pl)) (fun x => (x.2.2.b.ok.and x.2.2.err.ok)) (fun x => Blk d_0_b [x.2.2.b.val, i64 x.2.2.at_, x.2.2.err.val] 239) := by
 refine Ct.of Tryz.func166 rfl (by kernel_rfl) Tryz.ntmps166 (by simp) fun c => ?_
 unfold Sh.codec_Dec_uint at hS
 refine Zq (Zr ?_)
 refine Za ?_
 refine Za ?_
 refine Zl ?_
 refine Zq (Zr ?_)
 refine Za ?_
 refine Zl ?_
 refine Zq (Zq (Zr ?_))
 refine Zm ?_
 refine Zl ?_
 refine Zb ?_
 refine VC.iter (S := Int × Int) (fun sg => (sg.1, sg.2)) (fun sg => [(0, ptr d_0_b 0), (4, .int .u64 sg.1), (7, i64 sg.2)]) (fun sg => Mo.tt) (fun sg => Ow.star (Blk d_0_b [d_0.b.val, i64 d_0.at_, d_0.err.val] 239) (Ow.emp)) (0, 0) [0, 4, 7] hS rfl ?_
 clear hS
 rintro ⟨v4_1, x7_2⟩ m1 y1 hS hK1
 show VC _ _ _ _ _ [(0, ptr d_0_b 0), (4, .int .u64 v4_1), (7, i64 x7_2)] (Mo.and Mo.tt _) (Ow.star (Blk d_0_b [d_0.b.val, i64 d_0.at_, d_0.err.val] 239) (Ow.emp))
 refine Zq (Zr ?_)
 refine VL.q (q_lss rfl rfl) (by decide) ?_
 refine Zl ?_
 refine Zq ?_
 refine VC.cond_dec rfl (fun h8 => ?_) (fun h8 => ?_)
 ·
  replace hS := it_t h8 hS
  refine Zk ?_
  refine Zq (Zb (Zq (Zr ?_)))
  refine Zm ?_
  refine Za ?_
  refine Zl ?_
  refine Zq (Zq ?_)
  refine VC.draw ((List.range 12).map fun k => (k, true)) mixed (by kernel_rfl) (by kernel_rfl) (by kernel_rfl) ?_
  refine VD.q rfl (q_move rfl) (by decide) ?_
  refine VD.q rfl (q_nilCheck rfl) (by decide) ?_
  refine VD.q rfl (q_field gfa239_1 rfl) (by decide) ?_
  refine VD.q rfl (q_fe gone3 rfl rfl) (by decide) ?_
  refine VD.q rfl (q_move rfl) (by decide) ?_
  obtain ⟨b15, hS⟩ := gd_s hS
  refine VD.q rfl (q_add rfl rfl b15) (by decide) ?_
  refine VD.q rfl (q_move rfl) (by decide) ?_
  refine VD.q rfl (q_nilCheck rfl) (by decide) ?_
  refine VD.q rfl (q_field gfa239_0 rfl) (by decide) ?_
  refine VD.q rfl (q_fe gone27 rfl rfl) (by decide) ?_
  refine VD.q rfl (q_ln (s := d_0.b) Tryz.underlying27 rfl) (by decide) ?_
  refine VD.q rfl (q_geq rfl rfl) (by decide) ?_
  refine VD.to (fun _ _ h => h) ?_
  refine VC.keep [0, 4, 7, 5, 21] rfl ?_
  refine VC.cond_dec rfl (fun h21 => ?_) (fun h21 => ?_)
  ·
   replace hS := it_t h21 hS
   refine Zq (Zr ?_)
   refine Za ?_
   refine Za ?_
   refine Zl ?_
   replace hS := up2 hS hK1
   cases hS
   exact VC.ret (fin2 (.inr rfl) rfl rfl rfl (0, 3, ⟨d_0.b, d_0.at_, d_0.err⟩) rfl rfl (by (try dsimp only); exact InM.out) (by (try dsimp only); exact EntO.out))
  replace hS := it_f h21 hS
  refine Zk ?_
  refine Zq ?_
  refine VC.draw ((List.range 13).map fun k => (k, true)) mixed (by kernel_rfl) (by kernel_rfl) (by kernel_rfl) ?_
  refine VD.q rfl (q_move rfl) (by decide) ?_
  refine VD.q rfl (q_nilCheck rfl) (by decide) ?_
  refine VD.q rfl (q_field gfa239_0 rfl) (by decide) ?_
  refine VD.q rfl (q_fe gone27 rfl rfl) (by decide) ?_
  refine VD.q rfl (q_move rfl) (by decide) ?_
  refine VD.q rfl (q_nilCheck rfl) (by decide) ?_
  refine VD.q rfl (q_field gfa239_1 rfl) (by decide) ?_
  refine VD.q rfl (q_fe gone3 rfl rfl) (by decide) ?_
  refine VD.q rfl (q_move rfl) (by decide) ?_
  obtain ⟨b31, hS⟩ := gd_s hS
  refine VD.q rfl (q_add rfl rfl b31) (by decide) ?_
  obtain ⟨z32_3, nz32_3, hz32_3, hS⟩ := at_s hS
  refine VD.q rfl (q_ixm (s := d_0.b) Tryz.underlying27 gsz5 rfl rfl nz32_3 (lt_of_get nz32_3 hz32_3)) (by decide) ?_
  refine VD.q rfl (q_el (s := d_0.b) gone5 rfl hz32_3 rfl) (by decide) ?_
  refine VD.q rfl (q_assign rfl) (by decide) ?_
  refine VD.to (fun _ _ h => h) ?_
  refine VC.keep [0, 4, 7, 5, 6] rfl ?_
  refine VC.cutJ (S := Unit) (fun (_ : Unit) => ()) (fun (_ : Unit) => [(0, ptr d_0_b 0), (4, .int .u64 v4_1), (5, i64 x7_2), (6, .int .u8 (z32_3.toNat : Int)), (7, i64 x7_2)]) (fun (_ : Unit) => Mo.tt) (fun (_ : Unit) => Ow.star (Blk d_0_b [d_0.b.val, i64 d_0.at_, d_0.err.val] 239) (Ow.emp)) hS ?_ ?_
  ·
   clear hS
   intro k4 hS
   refine Zq (Zr ?_)
   refine Zm ?_
   refine VL.q (q_eql rfl rfl) (by decide) ?_
   refine Zm ?_
   refine VL.split_dec 36 rfl (fun h36 => ?_) (fun h36 => ?_)
   ·
    replace hS := it_t h36 hS
    refine Zg ?_
    refine VL.gy rfl rfl (q_gtr rfl rfl) (by decide) ?_
    refine Zt ?_
    refine Zm ?_
    refine VL.split_dec 40 rfl (fun h40 => ?_) (fun h40 => ?_)
    ·
     replace hS := it_t h40 hS
     refine Zn ?_
     refine Zn ?_
     refine Zn ?_
     refine VL.gu rfl rfl (by decide) ?_
     refine VL.gu rfl rfl (by decide) ?_
     refine Zn ?_
     refine Zt ?_
     refine Zl ?_
     refine VC.keep [0, 4, 7, 5, 6, 47] rfl ?_
     refine VC.cond_t rfl ?_
     replace hS := up2 hS hK1
     refine Zx ?_
     refine Zq (Zr ?_)
     refine Za ?_
     refine Za ?_
     refine Zl ?_
     cases hS
     exact VC.ret (fin2 (.inr rfl) rfl rfl rfl (0, 2, ⟨d_0.b, d_0.at_, d_0.err⟩) rfl rfl (by (try dsimp only); exact InM.out) (by (try dsimp only); exact EntO.out))
    replace hS := it_f h40 hS
    refine Zg ?_
    refine VL.gy rfl rfl (q_gtr rfl rfl) (by decide) ?_
    refine Zg ?_
    refine VL.split_dec 43 rfl (fun h43 => ?_) (fun h43 => ?_)
    ·
     replace hS := it_t h43 hS
     refine Zg ?_
     refine VL.gy rfl rfl (q_eql rfl rfl) (by decide) ?_
     refine VL.gy rfl rfl (q_pick_t rfl rfl) (by decide) ?_
     refine Zf ?_
     refine Zl ?_
     refine VC.keep [0, 4, 7, 5, 6, 47] rfl ?_
     refine VC.cond_dec rfl (fun h47 => ?_) (fun h47 => ?_)
     ·
      replace hS := it_t h47 hS
      replace hS := up2 hS hK1
      refine Zx ?_
      refine Zq (Zr ?_)
      refine Za ?_
      refine Za ?_
      refine Zl ?_
      cases hS
      exact VC.ret (fin2 (.inr rfl) rfl rfl rfl (0, 2, ⟨d_0.b, d_0.at_, d_0.err⟩) rfl rfl (by (try dsimp only); exact InM.out) (by (try dsimp only); exact EntO.out))
     replace hS := it_f h47 hS
     refine VC.skip_mt () [0, 4, 5, 6, 7] (fun _ _ h => h) hS rfl
    replace hS := it_f h43 hS
    refine Zn ?_
    refine Zn ?_
    refine VL.gy rfl rfl (q_pick_f rfl rfl) (by decide) ?_
    refine Zf ?_
    refine Zl ?_
    refine VC.keep [0, 4, 7, 5, 6, 47] rfl ?_
    refine VC.cond_f rfl ?_
    refine VC.skip_mt () [0, 4, 5, 6, 7] (fun _ _ h => h) hS rfl
   replace hS := it_f h36 hS
   refine Zn ?_
   refine Zn ?_
   refine Zf ?_
   refine Zm ?_
   refine Zg ?_
   refine VL.gy rfl rfl (q_gtr rfl rfl) (by decide) ?_
   refine Zg ?_
   refine VL.split_dec 43 rfl (fun h43 => ?_) (fun h43 => ?_)
   ·
    replace hS := it_t h43 hS
    refine Zg ?_
    refine VL.gy rfl rfl (q_eql rfl rfl) (by decide) ?_
    refine VL.gy rfl rfl (q_pick_t rfl rfl) (by decide) ?_
    refine Zf ?_
    refine Zl ?_
    refine VC.keep [0, 4, 7, 5, 6, 47] rfl ?_
    refine VC.cond_dec rfl (fun h47 => ?_) (fun h47 => ?_)
    ·
     replace hS := it_t h47 hS
     replace hS := up2 hS hK1
     refine Zx ?_
     refine Zq (Zr ?_)
     refine Za ?_
     refine Za ?_
     refine Zl ?_
     cases hS
     exact VC.ret (fin2 (.inr rfl) rfl rfl rfl (0, 2, ⟨d_0.b, d_0.at_, d_0.err⟩) rfl rfl (by (try dsimp only); exact InM.out) (by (try dsimp only); exact EntO.out))
    replace hS := it_f h47 hS
    refine VC.skip_mt () [0, 4, 5, 6, 7] (fun _ _ h => h) hS rfl
   replace hS := it_f h43 hS
   refine Zn ?_
   refine Zn ?_
   refine VL.gy rfl rfl (q_pick_f rfl rfl) (by decide) ?_
   refine Zf ?_
   refine Zl ?_
   refine VC.keep [0, 4, 7, 5, 6, 47] rfl ?_
   refine VC.cond_f rfl ?_
   refine VC.skip_mt () [0, 4, 5, 6, 7] (fun _ _ h => h) hS rfl
  clear hS
  rintro _ hS
  show VC _ _ _ _ _ [(0, ptr d_0_b 0), (4, .int .u64 v4_1), (5, i64 x7_2), (6, .int .u8 (z32_3.toNat : Int)), (7, i64 x7_2)] (Mo.and Mo.tt _) (Ow.star (Blk d_0_b [d_0.b.val, i64 d_0.at_, d_0.err.val] 239) (Ow.emp))
  refine Zq (Zr ?_)
  refine Zm ?_
  refine Zm ?_
  refine VL.q (q_and rfl rfl) (by decide) ?_
  refine VL.q (q_convW Tryz.underlying5 Tryz.underlying231 rfl) (by decide) ?_
  refine Zm ?_
  obtain ⟨b53, hS⟩ := gd_s hS
  refine VL.q (q_mul rfl rfl b53) (by decide) ?_
  obtain ⟨b54, hS⟩ := gd_s hS
  refine VL.q (q_shl rfl rfl b54) (by decide) ?_
  refine VL.q (q_or rfl rfl) (by decide) ?_
  refine Za ?_
  refine Zl ?_
  refine VC.keep [0, 4, 5, 6, 7] rfl ?_
  refine Zq (Zr ?_)
  refine Zm ?_
  refine VL.q (q_lss rfl rfl) (by decide) ?_
  refine Zl ?_
  refine VC.cond_dec rfl (fun h57 => ?_) (fun h57 => ?_)
  ·
   replace hS := it_t h57 hS
   refine Zq (Zr ?_)
   refine Zm ?_
   refine VL.q (q_nilCheck rfl) (by decide) ?_
   refine VL.q (q_field gfa239_1 rfl) (by decide) ?_
   refine VL.q (q_fe gone3 rfl rfl) (by decide) ?_
   refine Zm ?_
   obtain ⟨b63, hS⟩ := gd_s hS
   refine VL.q (q_add rfl rfl b63) (by decide) ?_
   obtain ⟨b64, hS⟩ := gd_s hS
   refine VL.q (q_add rfl rfl b64) (by decide) ?_
   refine VL.q (q_nilCheck rfl) (by decide) ?_
   refine VL.q (q_field gfa239_1 rfl) (by decide) ?_
   refine VL.store (vc := [i64 (d_0.at_ + (x7_2 + 1))]) (cs' := [d_0.b.val, i64 (d_0.at_ + (x7_2 + 1)), d_0.err.val]) rfl rfl rfl gsz3 rfl rfl (Nat.le_of_ble_eq_true rfl) rfl ?_
   refine Zl ?_
   refine VC.keep [4] rfl ?_
   refine Zq (Zr ?_)
   refine Zm ?_
   refine Za ?_
   refine Za ?_
   refine Zl ?_
   replace hS := up2 hS hK1
   cases hS
   exact VC.ret (fin2 (.inr rfl) rfl rfl rfl ((bOr .u64 v4_1 (sHl .u64 (IntKind.wrap .u64 (bAnd .u8 (z32_3.toNat : Int) 127)) (7 * x7_2))), 0, ⟨d_0.b, (d_0.at_ + (x7_2 + 1)), d_0.err⟩) rfl rfl (by (try dsimp only); exact InM.out) (by (try dsimp only); exact EntO.out))
  replace hS := it_f h57 hS
  refine Zk ?_
  refine Zr ?_
  obtain ⟨b68, hS⟩ := gd_s hS
  refine VL.q (q_add rfl rfl b68) (by decide) ?_
  refine Zm ?_
  refine VL.rnd ((bOr .u64 v4_1 (sHl .u64 (IntKind.wrap .u64 (bAnd .u8 (z32_3.toNat : Int) 127)) (7 * x7_2))), (x7_2 + 1)) [0, 4, 7] (fun _ _ h => h) (go2 hS hK1) rfl
 replace hS := it_f h8 hS
 replace hS := up2 hS hK1
 refine Zx ?_
 refine Zq (Zr ?_)
 refine Za ?_
 refine Za ?_
 refine Zl ?_
 cases hS
 exact VC.ret (fin2 (.inr rfl) rfl rfl rfl (0, 2, ⟨d_0.b, d_0.at_, d_0.err⟩) rfl rfl (by (try dsimp only); exact InM.out) (by (try dsimp only); exact EntO.out))
theorem codec_Dec_fail_ct (d_0_b : Nat) (d_0 : CodecDec) (at_1 : Int) (e_2 : Int) {r : CodecDecP} (hS : Sh.codec_Dec_fail d_0.pl at_1 e_2 = some r) :
 Ct Tryz.prog 167 [ptr d_0_b 0, i64 at_1, i64 e_2] (d_0.b.ok.and d_0.err.ok) (Blk d_0_b [d_0.b.val, i64 d_0.at_, d_0.err.val] 239) (X := CodecDec) (fun x => .tuple #[]) (fun x => r = x.pl) (fun x => (x.b.ok.and x.err.ok)) (fun x => Blk d_0_b [x.b.val, i64 x.at_, x.err.val] 239) := by
 refine Ct.of Tryz.func167 rfl (by kernel_rfl) Tryz.ntmps167 (by simp) fun c => ?_
 unfold Sh.codec_Dec_fail at hS
 refine Zr ?_
 refine Zm ?_
 refine Zm ?_
 refine Zm ?_
 refine VL.q (q_mkif Tryz.underlying115 (fun _ h => by cases h) rfl) (by decide) ?_
 refine VL.q (q_build (vs := [(0, str [98, 121, 116, 101]), (1, i64 at_1), (2, (Er.no e_2).val)]) (cs := #[str [98, 121, 116, 101], i64 at_1, (Er.no e_2).val]) rfl (by kernel_rfl)) (by decide) ?_
 refine VL.box (cs := [str [98, 121, 116, 101], i64 at_1, (Er.no e_2).val]) rfl rfl (by decide) fun b11_1 => ?_
 refine VL.shutB b11_1 ?_
 refine VL.q (q_mkif Tryz.underlying114 (fun _ h => by cases h) rfl) (by decide) ?_
 refine VL.q (q_nilCheck rfl) (by decide) ?_
 refine VL.q (q_field gfa239_2 rfl) (by decide) ?_
 refine VL.store (vc := [(Er.fault b11_1 [98, 121, 116, 101] at_1 (Er.no e_2)).val]) (cs' := [d_0.b.val, i64 d_0.at_, (Er.fault b11_1 [98, 121, 116, 101] at_1 (Er.no e_2)).val]) rfl rfl rfl gsz29 rfl rfl (Nat.le_of_ble_eq_true rfl) rfl ?_
 cases hS
 exact VL.nil (fin0 (.inl rfl) rfl ⟨d_0.b, d_0.at_, (Er.fault b11_1 [98, 121, 116, 101] at_1 (Er.no e_2))⟩ rfl rfl (by (try dsimp only); exact InM.out) (by (try dsimp only); exact EntO.out))
theorem codec_Dec_Int_ct (d_0_b : Nat) (d_0 : CodecDec) {r : Int × CodecDecP} (hS : Sh.codec_Dec_Int d_0.pl = some r) :
 Ct Tryz.prog 96 [ptr d_0_b 0] (d_0.b.ok.and d_0.err.ok) (Blk d_0_b [d_0.b.val, i64 d_0.at_, d_0.err.val] 239) (X := Int × CodecDec) (fun x => i64 x.1) (fun x => r = (x.1, x.2.pl)) (fun x => (x.2.b.ok.and x.2.err.ok)) (fun x => Blk d_0_b [x.2.b.val, i64 x.2.at_, x.2.err.val] 239) := by
 refine Ct.of Tryz.func96 rfl (by kernel_rfl) Tryz.ntmps96 (by simp) fun c => ?_
 unfold Sh.codec_Dec_Int at hS
 refine Zq (Zr ?_)
 refine Za ?_
 refine Zl ?_
 refine Zq (Zq (Zr ?_))
 refine Zm ?_
 refine VL.q (q_nilCheck rfl) (by decide) ?_
 refine VL.q (q_field gfa239_2 rfl) (by decide) ?_
 refine VL.q (q_fe gone29 rfl rfl) (by decide) ?_
 refine VL.q (q_erne Tryz.underlying29 rfl) (by decide) ?_
 refine Zl ?_
 refine VC.cond_ndec rfl (fun h10 => ?_) (fun h10 => ?_)
 ·
  replace hS := it_f h10 hS
  refine Zq (Zr ?_)
  refine Za ?_
  refine Zl ?_
  cases hS
  exact VC.ret (fin1 (.inr rfl) rfl rfl (0, ⟨d_0.b, d_0.at_, d_0.err⟩) rfl rfl (by (try dsimp only); exact InM.out) (by (try dsimp only); exact EntO.out))
 replace hS := it_t h10 hS
 refine Zk ?_
 refine Zq (Zr ?_)
 refine Zm ?_
 refine VL.q (q_nilCheck rfl) (by decide) ?_
 refine VL.q (q_field gfa239_1 rfl) (by decide) ?_
 refine VL.q (q_fe gone3 rfl rfl) (by decide) ?_
 refine Za ?_
 refine Zl ?_
 refine VC.keep [0, 3] rfl ?_
 refine Zq (Zr ?_)
 refine Zm ?_
 obtain ⟨y17_1, ey17_1, hS⟩ := bd_s hS
 refine VL.callO (codec_Dec_uint_ct d_0_b d_0 ey17_1) rfl (by decide) ?_
 rintro ⟨q17_1_0, q17_1_1, q17_1_2⟩ rfl
 try dsimp only
 refine Zm ?_
 refine VL.q (q_extract rfl rfl) (by decide) ?_
 refine VL.q (q_extract rfl rfl) (by decide) ?_
 refine Za ?_
 refine Za ?_
 refine Zl ?_
 refine Zq (Zq (Zr ?_))
 refine Zm ?_
 refine VL.q (q_neq rfl rfl) (by decide) ?_
 refine Zl ?_
 refine VC.cond_ndec rfl (fun h21 => ?_) (fun h21 => ?_)
 ·
  replace hS := it_f h21 hS
  refine Zq (Zr ?_)
  refine Zm ?_
  refine Zm ?_
  refine Zm ?_
  obtain ⟨y25_2, ey25_2, hS⟩ := bd_s hS
  refine VL.callO (codec_Dec_fail_ct d_0_b q17_1_2 d_0.at_ q17_1_1 ey25_2) rfl (by decide) ?_
  rintro q25_2_0 rfl
  try dsimp only
  refine Zl ?_
  refine VC.keep [] rfl ?_
  refine Zq (Zr ?_)
  refine Za ?_
  refine Zl ?_
  cases hS
  exact VC.ret (fin1 (.inr rfl) rfl rfl (0, ⟨q25_2_0.b, q25_2_0.at_, q25_2_0.err⟩) rfl rfl (by (try dsimp only); exact InM.out) (by (try dsimp only); exact EntO.out))
 replace hS := it_t h21 hS
 refine Zk ?_
 refine VC.keep [4] rfl ?_
 refine Zq (Zr ?_)
 refine Zm ?_
 refine VL.q (q_shr rfl rfl (by decide)) (by decide) ?_
 refine VL.q (q_convW Tryz.underlying231 Tryz.underlying2 rfl) (by decide) ?_
 refine Zm ?_
 refine VL.q (q_and rfl rfl) (by decide) ?_
 refine VL.q (q_convW Tryz.underlying231 Tryz.underlying2 rfl) (by decide) ?_
 refine VL.q (q_neg rfl) (by decide) ?_
 refine VL.q (q_xor rfl rfl) (by decide) ?_
 refine Za ?_
 refine Zl ?_
 cases hS
 exact VC.ret (fin1 (.inr rfl) rfl rfl ((bXor .i64 (IntKind.wrap .i64 (sHr .u64 q17_1_0 1)) (IntKind.wrap .i64 (0 - (IntKind.wrap .i64 (bAnd .u64 q17_1_0 1))))), ⟨q17_1_2.b, q17_1_2.at_, q17_1_2.err⟩) rfl rfl (by (try dsimp only); exact InM.out) (by (try dsimp only); exact EntO.out))
theorem codec_Dec_Err_ct (d_0_b : Nat) (d_0 : CodecDec) {r : Err} (hS : Sh.codec_Dec_Err d_0.pl = some r) :
 Ct Tryz.prog 97 [ptr d_0_b 0] (d_0.b.ok.and d_0.err.ok) (Blk d_0_b [d_0.b.val, i64 d_0.at_, d_0.err.val] 239) (X := Er) (fun x => x.val) (fun x => r = x.pl) (fun x => x.ok) (fun x => Blk d_0_b [d_0.b.val, i64 d_0.at_, d_0.err.val] 239) := by
 refine Ct.of Tryz.func97 rfl (by kernel_rfl) Tryz.ntmps97 (by simp) fun c => ?_
 unfold Sh.codec_Dec_Err at hS
 refine Zq (Zr ?_)
 refine Za ?_
 refine Zl ?_
 refine Zq (Zr ?_)
 refine Zm ?_
 refine VL.q (q_nilCheck rfl) (by decide) ?_
 refine VL.q (q_field gfa239_2 rfl) (by decide) ?_
 refine VL.q (q_fe gone29 rfl rfl) (by decide) ?_
 refine Za ?_
 refine Zl ?_
 cases hS
 exact VC.ret (fin1 (.inr rfl) rfl rfl d_0.err rfl rfl (by (try dsimp only); exact InM.out) (by (try dsimp only); exact EntO.out))
theorem codec_Dec_Text_ct (d_0_b : Nat) (d_0 : CodecDec) {r : Str × CodecDecP} (hS : Sh.codec_Dec_Text d_0.pl = some r) :
 Ct Tryz.prog 113 [ptr d_0_b 0] (d_0.b.ok.and d_0.err.ok) (Blk d_0_b [d_0.b.val, i64 d_0.at_, d_0.err.val] 239) (X := Str × CodecDec) (fun x => str x.1) (fun x => r = (x.1, x.2.pl)) (fun x => (x.2.b.ok.and x.2.err.ok)) (fun x => Blk d_0_b [x.2.b.val, i64 x.2.at_, x.2.err.val] 239) := by
 refine Ct.of Tryz.func113 rfl (by kernel_rfl) Tryz.ntmps113 (by simp) fun c => ?_
 unfold Sh.codec_Dec_Text at hS
 refine Zq (Zr ?_)
 refine Za ?_
 refine Zl ?_
 refine Zq (Zr ?_)
 refine Zm ?_
 refine VL.q (q_nilCheck rfl) (by decide) ?_
 refine VL.q (q_field gfa239_1 rfl) (by decide) ?_
 refine VL.q (q_fe gone3 rfl rfl) (by decide) ?_
 refine Za ?_
 refine Zl ?_
 refine Zq (Zr ?_)
 refine Zm ?_
 obtain ⟨y11_1, ey11_1, hS⟩ := bd_s hS
 refine VL.callO (codec_Dec_Int_ct d_0_b d_0 ey11_1) rfl (by decide) ?_
 rintro ⟨q11_1_0, q11_1_1⟩ rfl
 try dsimp only
 refine Za ?_
 refine Zl ?_
 refine Zq (Zb (Zq (Zr ?_)))
 refine Zm ?_
 refine VL.q (q_nilCheck rfl) (by decide) ?_
 refine VL.q (q_field gfa239_2 rfl) (by decide) ?_
 refine VL.q (q_fe gone29 rfl rfl) (by decide) ?_
 refine VL.q (q_erne Tryz.underlying29 rfl) (by decide) ?_
 refine Za ?_
 refine Zl ?_
 refine VC.keep [0, 3, 4, 12] rfl ?_
 refine VC.cond_ndec rfl (fun h12 => ?_) (fun h12 => ?_)
 ·
  replace hS := it_f h12 hS
  refine Zq (Zr ?_)
  refine Za ?_
  refine Zl ?_
  cases hS
  exact VC.ret (fin1 (.inr rfl) rfl rfl ([], ⟨q11_1_1.b, q11_1_1.at_, q11_1_1.err⟩) rfl rfl (by (try dsimp only); exact InM.out) (by (try dsimp only); exact EntO.out))
 replace hS := it_t h12 hS
 refine Zq (Zr ?_)
 refine Zm ?_
 refine VL.q (q_lss rfl rfl) (by decide) ?_
 refine Za ?_
 refine Zl ?_
 refine VC.cond_dec rfl (fun h18 => ?_) (fun h18 => ?_)
 ·
  replace hS := it_t h18 hS
  refine Zq (Zr ?_)
  refine Zm ?_
  refine Zm ?_
  obtain ⟨y23_2, ey23_2, hS⟩ := bd_s hS
  refine VL.callO (codec_Dec_fail_ct d_0_b q11_1_1 d_0.at_ 2 ey23_2) rfl (by decide) ?_
  rintro q23_2_0 rfl
  try dsimp only
  refine Zl ?_
  refine Zq (Zr ?_)
  refine Za ?_
  refine Zl ?_
  refine VC.keep [2] rfl ?_
  cases hS
  exact VC.ret (fin1 (.inr rfl) rfl rfl ([], ⟨q23_2_0.b, q23_2_0.at_, q23_2_0.err⟩) rfl rfl (by (try dsimp only); exact InM.out) (by (try dsimp only); exact EntO.out))
 replace hS := it_f h18 hS
 refine Zq ?_
 refine VC.draw ((List.range 13).map fun k => (k, true)) mixed (by kernel_rfl) (by kernel_rfl) (by kernel_rfl) ?_
 refine VD.q rfl (q_move rfl) (by decide) ?_
 refine VD.q rfl (q_move rfl) (by decide) ?_
 refine VD.q rfl (q_nilCheck rfl) (by decide) ?_
 refine VD.q rfl (q_field gfa239_0 rfl) (by decide) ?_
 refine VD.q rfl (q_fe gone27 rfl rfl) (by decide) ?_
 refine VD.q rfl (q_ln (s := q11_1_1.b) Tryz.underlying27 rfl) (by decide) ?_
 refine VD.q rfl (q_move rfl) (by decide) ?_
 refine VD.q rfl (q_nilCheck rfl) (by decide) ?_
 refine VD.q rfl (q_field gfa239_1 rfl) (by decide) ?_
 refine VD.q rfl (q_fe gone3 rfl rfl) (by decide) ?_
 obtain ⟨b35, hS⟩ := gd_s hS
 refine VD.q rfl (q_sub rfl rfl b35) (by decide) ?_
 refine VD.q rfl (q_gtr rfl rfl) (by decide) ?_
 refine VD.q rfl (q_assign rfl) (by decide) ?_
 refine VD.to (fun _ _ h => h) ?_
 refine VC.keep [0, 3, 4, 24] rfl ?_
 refine VC.cond_dec rfl (fun h24 => ?_) (fun h24 => ?_)
 ·
  replace hS := it_t h24 hS
  refine Zq (Zr ?_)
  refine Zm ?_
  refine Zm ?_
  obtain ⟨y39_3, ey39_3, hS⟩ := bd_s hS
  refine VL.callO (codec_Dec_fail_ct d_0_b q11_1_1 d_0.at_ 3 ey39_3) rfl (by decide) ?_
  rintro q39_3_0 rfl
  try dsimp only
  refine Zl ?_
  refine Zq (Zr ?_)
  refine Za ?_
  refine Zl ?_
  cases hS
  exact VC.ret (fin1 (.inr rfl) rfl rfl ([], ⟨q39_3_0.b, q39_3_0.at_, q39_3_0.err⟩) rfl rfl (by (try dsimp only); exact InM.out) (by (try dsimp only); exact EntO.out))
 replace hS := it_f h24 hS
 refine Zk ?_
 refine Zq ?_
 refine VC.draw ((List.range 17).map fun k => (k, true)) mixed (by kernel_rfl) (by kernel_rfl) (by kernel_rfl) ?_
 refine VD.q rfl (q_move rfl) (by decide) ?_
 refine VD.q rfl (q_nilCheck rfl) (by decide) ?_
 refine VD.q rfl (q_field gfa239_0 rfl) (by decide) ?_
 refine VD.q rfl (q_fe gone27 rfl rfl) (by decide) ?_
 refine VD.q rfl (q_move rfl) (by decide) ?_
 refine VD.q rfl (q_nilCheck rfl) (by decide) ?_
 refine VD.q rfl (q_field gfa239_1 rfl) (by decide) ?_
 refine VD.q rfl (q_fe gone3 rfl rfl) (by decide) ?_
 refine VD.q rfl (q_move rfl) (by decide) ?_
 refine VD.q rfl (q_nilCheck rfl) (by decide) ?_
 refine VD.q rfl (q_field gfa239_1 rfl) (by decide) ?_
 refine VD.q rfl (q_fe gone3 rfl rfl) (by decide) ?_
 refine VD.q rfl (q_move rfl) (by decide) ?_
 obtain ⟨b53, hS⟩ := gd_s hS
 refine VD.q rfl (q_add rfl rfl b53) (by decide) ?_
 obtain ⟨b54, hS⟩ := gd_s hS
 refine VD.smidK rfl Tryz.underlying27 gsz5 rfl rfl rfl b54.1 b54.2.1 (b54.2.2) (by decide) fun s54_4 hs54_4 Qs54_4 => ?_
 replace hS := lt_to hs54_4 hS
 refine VD.q rfl (q_b2s (s := s54_4) Tryz.underlying27 Tryz.underlying5 Tryz.underlying9 rfl) (by decide) ?_
 refine VD.q rfl (q_assign rfl) (by decide) ?_
 refine VD.to (fun _ _ h => h) ?_
 refine VC.keep [0, 4, 5] rfl ?_
 refine Zq (Zr ?_)
 refine Zm ?_
 refine VL.q (q_nilCheck rfl) (by decide) ?_
 refine VL.q (q_field gfa239_1 rfl) (by decide) ?_
 refine VL.q (q_fe gone3 rfl rfl) (by decide) ?_
 refine Zm ?_
 obtain ⟨b61, hS⟩ := gd_s hS
 refine VL.q (q_add rfl rfl b61) (by decide) ?_
 refine VL.q (q_nilCheck rfl) (by decide) ?_
 refine VL.q (q_field gfa239_1 rfl) (by decide) ?_
 refine VL.store (vc := [i64 (q11_1_1.at_ + q11_1_0)]) (cs' := [q11_1_1.b.val, i64 (q11_1_1.at_ + q11_1_0), q11_1_1.err.val]) rfl rfl rfl gsz3 rfl rfl (Nat.le_of_ble_eq_true rfl) rfl ?_
 refine Zl ?_
 refine VC.keep [5] rfl ?_
 refine Zq (Zr ?_)
 refine Zm ?_
 refine Za ?_
 refine Zl ?_
 cases hS
 exact VC.ret (fin1 (.inr rfl) rfl rfl (s54_4.l, ⟨q11_1_1.b, (q11_1_1.at_ + q11_1_0), q11_1_1.err⟩) rfl rfl (by (try dsimp only); exact InM.out) (by (try dsimp only); exact EntO.out))
theorem index_read_ct (d_0_b : Nat) (d_0 : CodecDec) {r : IndexEntry × CodecDecP} (hS : Sh.index_read d_0.pl = some r) :
 Ct Tryz.prog 98 [ptr d_0_b 0] (d_0.b.ok.and d_0.err.ok) (Blk d_0_b [d_0.b.val, i64 d_0.at_, d_0.err.val] 239) (X := IndexEntry × CodecDec) (fun x => .agg #[str x.1.path, i64 x.1.stage, i64 x.1.mode, str x.1.data, i64 x.1.time, i64 x.1.size]) (fun x => r = (x.1, x.2.pl)) (fun x => (x.2.b.ok.and x.2.err.ok)) (fun x => Blk d_0_b [x.2.b.val, i64 x.2.at_, x.2.err.val] 239) := by
 refine Ct.of Tryz.func98 rfl (by kernel_rfl) Tryz.ntmps98 (by simp) fun c => ?_
 unfold Sh.index_read at hS
 refine Zq (Zr ?_)
 refine VL.alloc (cs := [str [], i64 0, i64 0, str [], i64 0, i64 0]) (by kernel_rfl) (by decide) fun b2_1 => ?_
 refine Zl ?_
 refine Zq (Zr ?_)
 refine Zm ?_
 obtain ⟨y4_2, ey4_2, hS⟩ := bd_s hS
 refine VL.callO (codec_Dec_Text_ct d_0_b d_0 ey4_2) rfl (by decide) ?_
 rintro ⟨q4_2_0, q4_2_1⟩ rfl
 try dsimp only
 refine Zm ?_
 obtain ⟨y6_3, ey6_3, hS⟩ := bd_s hS
 refine VL.callO (codec_Dec_Int_ct d_0_b q4_2_1 ey6_3) rfl (by decide) ?_
 rintro ⟨q6_3_0, q6_3_1⟩ rfl
 try dsimp only
 refine Zm ?_
 obtain ⟨y8_4, ey8_4, hS⟩ := bd_s hS
 refine VL.callO (codec_Dec_Int_ct d_0_b q6_3_1 ey8_4) rfl (by decide) ?_
 rintro ⟨q8_4_0, q8_4_1⟩ rfl
 try dsimp only
 refine Zm ?_
 obtain ⟨y10_5, ey10_5, hS⟩ := bd_s hS
 refine VL.callO (codec_Dec_Text_ct d_0_b q8_4_1 ey10_5) rfl (by decide) ?_
 rintro ⟨q10_5_0, q10_5_1⟩ rfl
 try dsimp only
 refine Zm ?_
 obtain ⟨y12_6, ey12_6, hS⟩ := bd_s hS
 refine VL.callO (codec_Dec_Int_ct d_0_b q10_5_1 ey12_6) rfl (by decide) ?_
 rintro ⟨q12_6_0, q12_6_1⟩ rfl
 try dsimp only
 refine Zm ?_
 obtain ⟨y14_7, ey14_7, hS⟩ := bd_s hS
 refine VL.callO (codec_Dec_Int_ct d_0_b q12_6_1 ey14_7) rfl (by decide) ?_
 rintro ⟨q14_7_0, q14_7_1⟩ rfl
 try dsimp only
 refine VL.q (q_build (vs := [(0, str q4_2_0), (1, i64 q6_3_0), (2, i64 q8_4_0), (3, str q10_5_0), (4, i64 q12_6_0), (5, i64 q14_7_0)]) (cs := #[str q4_2_0, i64 q6_3_0, i64 q8_4_0, str q10_5_0, i64 q12_6_0, i64 q14_7_0]) rfl (by kernel_rfl)) (by decide) ?_
 refine VL.store (vc := [str q4_2_0, i64 q6_3_0, i64 q8_4_0, str q10_5_0, i64 q12_6_0, i64 q14_7_0]) (cs' := [str q4_2_0, i64 q6_3_0, i64 q8_4_0, str q10_5_0, i64 q12_6_0, i64 q14_7_0]) rfl rfl rfl gsz149 rfl rfl (Nat.le_of_ble_eq_true rfl) rfl ?_
 refine Zl ?_
 refine VC.keep [2] rfl ?_
 cases hS
 exact VC.ret (finG (vs := [.agg #[str q4_2_0, i64 q6_3_0, i64 q8_4_0, str q10_5_0, i64 q12_6_0, i64 q14_7_0]]) (.inr rfl) rfl (RVs.cell gagg149 rfl rfl Rd.blk (RVs.nil)) (⟨q4_2_0, q6_3_0, q8_4_0, q10_5_0, q12_6_0, q14_7_0⟩, ⟨q14_7_1.b, q14_7_1.at_, q14_7_1.err⟩) rfl rfl (by (try dsimp only); exact InM.out) (by (try dsimp only); exact EntO.out))
theorem codec_Dec_Left_ct (d_0_b : Nat) (d_0 : CodecDec) {r : Int} (hS : Sh.codec_Dec_Left d_0.pl = some r) :
 Ct Tryz.prog 99 [ptr d_0_b 0] (d_0.b.ok.and (d_0.err.ok.and (Cells d_0_b 0 [d_0.b.val, i64 d_0.at_, d_0.err.val]))) (Ow.emp) (X := Unit) (fun _ => i64 r) (fun _ => True) (fun _ => Mo.tt) (fun _ => Ow.emp) := by
 refine Ct.of Tryz.func99 rfl (by kernel_rfl) Tryz.ntmps99 (by simp) fun c => ?_
 unfold Sh.codec_Dec_Left at hS
 refine Zq (Zr ?_)
 refine Za ?_
 refine Zl ?_
 refine Zq (Zq (Zr ?_))
 refine Zm ?_
 refine VL.q (q_nilCheck rfl) (by decide) ?_
 refine VL.q (q_field gfa239_2 rfl) (by decide) ?_
 refine VL.q (q_fm gone29 rfl rfl) (by decide) ?_
 refine VL.q (q_erne Tryz.underlying29 rfl) (by decide) ?_
 refine Zl ?_
 refine VC.cond_ndec rfl (fun h7 => ?_) (fun h7 => ?_)
 ·
  replace hS := it_f h7 hS
  refine Zq (Zr ?_)
  refine Za ?_
  refine Zl ?_
  cases hS
  exact Ze
 replace hS := it_t h7 hS
 refine Zk ?_
 refine Zq ?_
 refine VC.draw ((List.range 11).map fun k => (k, true)) mixed (by kernel_rfl) (by kernel_rfl) (by kernel_rfl) ?_
 refine VD.q rfl (q_move rfl) (by decide) ?_
 refine VD.q rfl (q_nilCheck rfl) (by decide) ?_
 refine VD.q rfl (q_field gfa239_0 rfl) (by decide) ?_
 refine VD.q rfl (q_fm gone27 rfl rfl) (by decide) ?_
 refine VD.q rfl (q_ln (s := d_0.b) Tryz.underlying27 rfl) (by decide) ?_
 refine VD.q rfl (q_move rfl) (by decide) ?_
 refine VD.q rfl (q_nilCheck rfl) (by decide) ?_
 refine VD.q rfl (q_field gfa239_1 rfl) (by decide) ?_
 refine VD.q rfl (q_fm gone3 rfl rfl) (by decide) ?_
 obtain ⟨b17, hS⟩ := gd_s hS
 refine VD.q rfl (q_sub rfl rfl b17) (by decide) ?_
 refine VD.q rfl (q_assign rfl) (by decide) ?_
 refine VD.to (fun _ _ h => h) ?_
 refine VC.keep [2] rfl ?_
 cases hS
 exact Ze
theorem index_Decode_ct (b_0 : Sv UInt8) {r : List IndexEntry × Err} (hS : Sh.index_Decode b_0.l = some r) :
 Ct Tryz.prog 41 [b_0.val] b_0.ok (Ow.emp) (X := Sv IndexEntry × Er) (fun x => .tuple #[x.1.val, x.2.val]) (fun x => r = (x.1.l, x.2.pl)) (fun x => (x.1.ok.and x.2.ok)) (fun x => Ow.emp) := by
 refine Ct.of Tryz.func41 rfl (by kernel_rfl) Tryz.ntmps41 (by simp) fun c => ?_
 unfold Sh.index_Decode at hS
 refine Zq (Zr ?_)
 refine Za ?_
 refine Za ?_
 refine Zl ?_
 refine Zq (Zr ?_)
 refine Zm ?_
 obtain ⟨y14_1, ey14_1, hS⟩ := bd_s hS
 refine VL.callF (seal_Open_ct b_0 ey14_1) rfl (by decide) ?_
 rintro ⟨q14_1_0, q14_1_1⟩ rfl
 try dsimp only
 refine Zm ?_
 refine VL.q (q_extract rfl rfl) (by decide) ?_
 refine VL.q (q_extract rfl rfl) (by decide) ?_
 refine Za ?_
 refine Za ?_
 refine Zl ?_
 refine Zq (Zq (Zr ?_))
 refine Zm ?_
 refine VL.q (q_erne Tryz.underlying29 rfl) (by decide) ?_
 refine Zl ?_
 refine VC.keep [4, 5, 18] rfl ?_
 refine VC.cond_ndec rfl (fun h18 => ?_) (fun h18 => ?_)
 ·
  replace hS := it_f h18 hS
  refine Zq (Zr ?_)
  refine Zm ?_
  refine Za ?_
  refine Za ?_
  refine Zl ?_
  cases hS
  exact VC.ret (fin2 (.inr rfl) rfl rfl rfl (⟨none, 0, []⟩, q14_1_1) rfl rfl (by (try dsimp only); exact InM.out) (fun _ _ => trivial))
 replace hS := it_t h18 hS
 refine Zk ?_
 refine Zq (Zr ?_)
 refine Zm ?_
 obtain ⟨y21_2, ey21_2, hS⟩ := bd_s hS
 refine VL.callO (codec_Of_ct q14_1_0 ey21_2) rfl (by decide) ?_
 rintro ⟨q21_2_0, q21_2_1⟩ rfl
 try dsimp only
 refine Za ?_
 refine Zl ?_
 refine Zq (Zr ?_)
 refine Zm ?_
 obtain ⟨y23_3, ey23_3, hS⟩ := bd_s hS
 refine VL.callO (codec_Dec_Int_ct q21_2_0 q21_2_1 ey23_3) rfl (by decide) ?_
 rintro ⟨q23_3_0, q23_3_1⟩ rfl
 try dsimp only
 refine Za ?_
 refine Zl ?_
 refine Zq (Zr ?_)
 refine Za ?_
 refine Zl ?_
 refine VC.cutJ (S := Sv IndexEntry × Sv UInt8 × Int × Er) (fun sg => (sg.1.l, sg.2.1.l, sg.2.2.1, sg.2.2.2.pl)) (fun sg => [(6, ptr q21_2_0 0), (7, i64 q23_3_0), (8, sg.1.val)]) (fun sg => (sg.2.1.ok.and sg.2.2.2.ok)) (fun sg => Ow.star (Blk q21_2_0 [sg.2.1.val, i64 sg.2.2.1, sg.2.2.2.val] 239) (Ow.star (Sv.own sg.1 149) (Ow.emp))) hS ?_ ?_
 ·
  clear hS
  intro k8 hS
  refine Zq (Zr ?_)
  refine Za ?_
  refine Zl ?_
  refine VC.keep [6, 7, 8, 9] rfl ?_
  refine Zb ?_
  refine VC.nilO (⟨none, 0, []⟩ : Sv IndexEntry) 149 ⟨rfl, rfl⟩ ?_
  refine VC.iter (S := Sv IndexEntry × Int × Sv UInt8 × Int × Er) (fun sg => (sg.1.l, sg.2.1, sg.2.2.1.l, sg.2.2.2.1, sg.2.2.2.2.pl)) (fun sg => [(6, ptr q21_2_0 0), (7, i64 q23_3_0), (8, sg.1.val), (9, i64 sg.2.1)]) (fun sg => (sg.2.2.1.ok.and sg.2.2.2.2.ok)) (fun sg => Ow.star (Blk q21_2_0 [sg.2.2.1.val, i64 sg.2.2.2.1, sg.2.2.2.2.val] 239) (Ow.star (Sv.own sg.1 149) (Ow.emp))) (⟨none, 0, []⟩, 0, q23_3_1.b, q23_3_1.at_, q23_3_1.err) [6, 7, 8, 9] hS rfl ?_
  clear hS
  rintro ⟨out8_9, i9_10, c0_11, c1_12, c2_13⟩ m1 y1 hS hK1
  show VC _ _ _ _ _ [(6, ptr q21_2_0 0), (7, i64 q23_3_0), (8, out8_9.val), (9, i64 i9_10)] (Mo.and (c0_11.ok.and c2_13.ok) _) (Ow.star (Blk q21_2_0 [c0_11.val, i64 c1_12, c2_13.val] 239) (Ow.star (Sv.own out8_9 149) (Ow.emp)))
  refine Zq (Zq (Zr ?_))
  refine Zm ?_
  refine Zm ?_
  refine VL.q (q_lss rfl rfl) (by decide) ?_
  refine Zm ?_
  refine VL.split_dec 27 rfl (fun h27 => ?_) (fun h27 => ?_)
  ·
   replace hS := it_t h27 hS
   refine Zg ?_
   refine VL.guard rfl rfl ?_
   obtain ⟨y29_14, ey29_14, hS⟩ := bd_s hS
   refine VL.callO (codec_Dec_Err_ct q21_2_0 (⟨c0_11, c1_12, c2_13⟩ : CodecDec) ey29_14) rfl (by decide) ?_
   rintro q29_14_0 rfl
   try dsimp only
   refine VL.gy rfl rfl (q_ereq Tryz.underlying29 rfl) (by decide) ?_
   refine Zt ?_
   refine Zl ?_
   refine VC.keep [6, 7, 8, 9, 31] rfl ?_
   refine VC.cond_dec rfl (fun h31 => ?_) (fun h31 => ?_)
   ·
    replace hS := it_t h31 hS
    refine Zk ?_
    refine Zq (Zb (Zr ?_))
    refine Zm ?_
    refine Zm ?_
    obtain ⟨y36_15, ey36_15, hS⟩ := bd_s hS
    refine VL.callO (index_read_ct q21_2_0 (⟨c0_11, c1_12, c2_13⟩ : CodecDec) ey36_15) rfl (by decide) ?_
    rintro ⟨q36_15_0, q36_15_1⟩ rfl
    try dsimp only
    refine VL.lit (α := IndexEntry) (xs := [.tmp 36]) (vs := [.agg #[str q36_15_0.path, i64 q36_15_0.stage, i64 q36_15_0.mode, str q36_15_0.data, i64 q36_15_0.time, i64 q36_15_0.size]]) [⟨q36_15_0.path, q36_15_0.stage, q36_15_0.mode, q36_15_0.data, q36_15_0.time, q36_15_0.size⟩] Tryz.underlying66 glit149 (by decide) rfl rfl rfl rfl (by decide) (fun _ _ _ _ => trivial) (by decide) (fun s37_16 hs37_16 => ?_) (by decide)
    replace hS := lt_to hs37_16 hS
    obtain ⟨b38, hS⟩ := gd_s hS
    refine VL.app (s := out8_9) (r := s37_16) Tryz.underlying66 gapp149 (by decide) rfl Fo.out (ap1 b38) (ap2 b38 (by decide)) (by decide) (fun s38_18 hs38_18 => ?_)
    replace hS := lt_to hs38_18 hS
    refine Za ?_
    refine Zl ?_
    refine Zr ?_
    refine Zm ?_
    obtain ⟨b33, hS⟩ := gd_s hS
    refine VL.q (q_add rfl rfl b33) (by decide) ?_
    refine Za ?_
    refine VL.rnd (s38_18, (i9_10 + 1), q36_15_1.b, q36_15_1.at_, q36_15_1.err) [6, 7, 8, 9] (fun _ _ h => h) (go2 hS hK1) rfl
   replace hS := it_f h31 hS
   replace hS := up2 hS hK1
   refine VC.exit_mt (out8_9, c0_11, c1_12, c2_13) [6, 7, 8] (fun _ _ h => h) hS rfl
  replace hS := it_f h27 hS
  refine Zn ?_
  refine Zn ?_
  refine Zn ?_
  refine Zf ?_
  refine Zl ?_
  refine VC.keep [6, 7, 8, 9, 31] rfl ?_
  refine VC.cond_f rfl ?_
  replace hS := up2 hS hK1
  refine VC.exit_mt (out8_9, c0_11, c1_12, c2_13) [6, 7, 8] (fun _ _ h => h) hS rfl
 clear hS
 rintro ⟨out8_4, c0_5, c1_6, c2_7⟩ hS
 show VC _ _ _ _ _ [(6, ptr q21_2_0 0), (7, i64 q23_3_0), (8, out8_4.val)] (Mo.and (c0_5.ok.and c2_7.ok) _) (Ow.star (Blk q21_2_0 [c0_5.val, i64 c1_6, c2_7.val] 239) (Ow.star (Sv.own out8_4 149) (Ow.emp)))
 refine Zq (Zq (Zr ?_))
 refine Zm ?_
 obtain ⟨y40_20, ey40_20, hS⟩ := bd_s hS
 refine VL.callO (codec_Dec_Err_ct q21_2_0 (⟨c0_5, c1_6, c2_7⟩ : CodecDec) ey40_20) rfl (by decide) ?_
 rintro q40_20_0 rfl
 try dsimp only
 refine Za ?_
 refine Zl ?_
 refine Zq (Zr ?_)
 refine Zm ?_
 refine VL.q (q_erne Tryz.underlying29 rfl) (by decide) ?_
 refine Zl ?_
 refine VC.cond_ndec rfl (fun h42 => ?_) (fun h42 => ?_)
 ·
  replace hS := it_f h42 hS
  refine Zq (Zr ?_)
  refine Zm ?_
  refine Za ?_
  refine Za ?_
  refine Zl ?_
  refine VC.keep [2, 3] rfl ?_
  cases hS
  exact VC.ret (fin2 (.inr rfl) rfl rfl rfl (⟨none, 0, []⟩, q40_20_0) rfl rfl (by (try dsimp only); exact InM.out) (fun _ _ => trivial))
 replace hS := it_t h42 hS
 refine Zk ?_
 refine Zq ?_
 refine VC.cutJ (S := Bool) (fun (x50_21 : Bool) => x50_21) (fun (x50_21 : Bool) => [(8, out8_4.val), (50, .bool x50_21)]) (fun (x50_21 : Bool) => Mo.tt) (fun (x50_21 : Bool) => Ow.star (Blk q21_2_0 [c0_5.val, i64 c1_6, c2_7.val] 239) (Ow.star (Sv.own out8_4 149) (Ow.emp))) hS ?_ ?_
 ·
  clear hS
  intro k22 hS
  refine Zr ?_
  refine Zm ?_
  refine VL.q (q_lss rfl rfl) (by decide) ?_
  refine Zm ?_
  refine VL.split_dec 46 rfl (fun h46 => ?_) (fun h46 => ?_)
  ·
   replace hS := it_t h46 hS
   refine Zn ?_
   refine Zn ?_
   refine Zn ?_
   refine Zt ?_
   refine VL.mt true [8, 50] (fun _ _ h => h) hS rfl
  replace hS := it_f h46 hS
  refine Zg ?_
  obtain ⟨y48_23, ey48_23, hS⟩ := bd_s hS
  refine VL.gy rfl rfl (q_callR (codec_Dec_Left_ct q21_2_0 (⟨c0_5, c1_6, c2_7⟩ : CodecDec) ey48_23) rfl (fun _ _ => rfl)) (by decide) ?_
  refine VL.gy rfl rfl (q_gtr rfl rfl) (by decide) ?_
  refine Zf ?_
  refine VL.mt (decide (0 < y48_23)) [8, 50] (fun _ _ h => h) hS rfl
 clear hS
 rintro x50_21 hS
 show VC _ _ _ _ _ [(8, out8_4.val), (50, .bool x50_21)] (Mo.and Mo.tt _) (Ow.star (Blk q21_2_0 [c0_5.val, i64 c1_6, c2_7.val] 239) (Ow.star (Sv.own out8_4 149) (Ow.emp)))
 refine VC.cond rfl (fun h50 => ?_) (fun h50 => ?_)
 ·
  replace hS := it_t h50 hS
  refine Zq (Zr ?_)
  refine VL.q (q_mkif Tryz.underlying115 (fun _ h => by cases h) rfl) (by decide) ?_
  refine VL.q (q_build (vs := [(0, str [105, 110, 100, 101, 120]), (1, i64 0), (2, (Er.no 2).val)]) (cs := #[str [105, 110, 100, 101, 120], i64 0, (Er.no 2).val]) rfl (by kernel_rfl)) (by decide) ?_
  refine VL.box (cs := [str [105, 110, 100, 101, 120], i64 0, (Er.no 2).val]) rfl rfl (by decide) fun b53_24 => ?_
  refine VL.shutB b53_24 ?_
  refine VL.q (q_mkif Tryz.underlying114 (fun _ h => by cases h) rfl) (by decide) ?_
  refine Za ?_
  refine Za ?_
  refine Zl ?_
  cases hS
  exact VC.ret (fin2 (.inr rfl) rfl rfl rfl (⟨none, 0, []⟩, (Er.fault b53_24 [105, 110, 100, 101, 120] 0 (Er.no 2))) rfl rfl (by (try dsimp only); exact InM.out) (fun _ _ => trivial))
 replace hS := it_b h50 hS
 refine Zk ?_
 refine Zq (Zq (Zr ?_))
 refine Zm ?_
 refine VL.shut out8_4 149 (fun _ _ _ _ => trivial) ?_
 obtain ⟨y56_25, ey56_25, hS⟩ := bd_s hS
 refine VL.callF (index_Check_ct out8_4 ey56_25) rfl (by decide) ?_
 rintro q56_25_0 rfl
 try dsimp only
 refine Za ?_
 refine Zl ?_
 refine Zq (Zr ?_)
 refine Zm ?_
 refine VL.q (q_erne Tryz.underlying29 rfl) (by decide) ?_
 refine Zl ?_
 refine VC.cond_ndec rfl (fun h58 => ?_) (fun h58 => ?_)
 ·
  replace hS := it_f h58 hS
  refine Zq (Zr ?_)
  refine Zm ?_
  refine Za ?_
  refine Za ?_
  refine Zl ?_
  cases hS
  exact VC.ret (fin2 (.inr rfl) rfl rfl rfl (⟨none, 0, []⟩, q56_25_0) rfl rfl (by (try dsimp only); exact InM.out) (fun _ _ => trivial))
 replace hS := it_t h58 hS
 refine Zk ?_
 refine Zq (Zr ?_)
 refine Zm ?_
 obtain ⟨y61_26, ey61_26, hS⟩ := bd_s hS
 refine VL.callF (slices_Clip_index_Entry_index_Entry_ct out8_4 ey61_26) rfl (by decide) ?_
 rintro q61_26_0 rfl
 try dsimp only
 refine Za ?_
 refine Za ?_
 refine Zl ?_
 refine VC.keep [2, 3] rfl ?_
 cases hS
 exact VC.ret (fin2 (.inr rfl) rfl rfl rfl (q61_26_0, .nil) rfl rfl (by (try dsimp only); exact InM.out) (fun _ _ => trivial))
theorem slices_Clip_files_Row_files_File_ct (s_0 : Sv FilesFile) {r : List FilesFile} (hS : Sh.slices_Clip_files_Row_files_File s_0.l = some r) :
 Ct Tryz.prog 75 [s_0.val] s_0.ok (Ow.emp) (X := Sv FilesFile) (fun x => x.val) (fun x => r = x.l) (fun x => x.ok) (fun x => Ow.emp) := by
 refine Ct.of Tryz.func75 rfl (by kernel_rfl) Tryz.ntmps75 (by simp) fun c => ?_
 unfold Sh.slices_Clip_files_Row_files_File at hS
 refine Zq (Zr ?_)
 refine Za ?_
 refine Zl ?_
 refine Zq (Zr ?_)
 refine Zm ?_
 refine Zm ?_
 refine VL.q (q_ln (s := s_0) Tryz.underlying38 rfl) (by decide) ?_
 refine Zm ?_
 refine VL.q (q_ln (s := s_0) Tryz.underlying38 rfl) (by decide) ?_
 obtain ⟨b8, hS⟩ := gd_s hS
 refine VL.stom Tryz.underlying38 gsz42 rfl rfl rfl b8.1 (b8.2) (by decide) fun s8_1 hs8_1 => ?_
 replace hS := lt_to hs8_1 hS
 refine Za ?_
 refine Zl ?_
 cases hS
 exact VC.ret (fin1 (.inr rfl) rfl rfl s8_1 rfl rfl (by (try dsimp only); exact InM.out) (fun _ _ => trivial))
theorem index_Stage_ct (l_0 : Sv IndexEntry) (n_1 : Int) {r : List FilesFile} (hS : Sh.index_Stage l_0.l n_1 = some r) :
 Ct Tryz.prog 39 [l_0.val, i64 n_1] l_0.ok (Ow.emp) (X := Sv FilesFile) (fun x => x.val) (fun x => r = x.l) (fun x => x.ok) (fun x => Ow.emp) := by
 refine Ct.of Tryz.func39 rfl (by kernel_rfl) Tryz.ntmps39 (by simp) fun c => ?_
 unfold Sh.index_Stage at hS
 refine Zq (Zr ?_)
 refine Za ?_
 refine Zl ?_
 refine Zq (Zr ?_)
 refine Za ?_
 refine Zl ?_
 refine Zq (Zq (Zr ?_))
 refine Zm ?_
 refine VL.q (q_ln (s := l_0) Tryz.underlying66 rfl) (by decide) ?_
 refine Zm ?_
 refine Zl ?_
 refine Zb ?_
 refine VC.nilO (⟨none, 0, []⟩ : Sv FilesFile) 42 ⟨rfl, rfl⟩ ?_
 refine VC.iter (S := Sv FilesFile × Int) (fun sg => (sg.1.l, sg.2)) (fun sg => [(1, i64 n_1), (5, sg.1.val), (8, l_0.val), (9, i64 (l_0.l.length : Int)), (10, i64 sg.2)]) (fun sg => Mo.tt) (fun sg => Ow.star (Sv.own sg.1 42) (Ow.emp)) (⟨none, 0, []⟩, 0) [1, 5, 8, 9, 10] hS rfl ?_
 clear hS
 rintro ⟨out5_1, x10_2⟩ m1 y1 hS hK1
 show VC _ _ _ _ _ [(1, i64 n_1), (5, out5_1.val), (8, l_0.val), (9, i64 (l_0.l.length : Int)), (10, i64 x10_2)] (Mo.and Mo.tt _) (Ow.star (Sv.own out5_1 42) (Ow.emp))
 refine Zq (Zr ?_)
 refine VL.q (q_lss rfl rfl) (by decide) ?_
 refine Zl ?_
 refine Zq ?_
 refine VC.cond_dec rfl (fun h11 => ?_) (fun h11 => ?_)
 ·
  replace hS := it_t h11 hS
  refine Zk ?_
  refine Zq (Zb (Zq (Zr ?_)))
  obtain ⟨z12_3, nz12_3, hz12_3, hS⟩ := at_s hS
  refine VL.q (q_ixm (s := l_0) Tryz.underlying66 gsz149 rfl rfl nz12_3 (lt_of_get nz12_3 hz12_3)) (by decide) ?_
  refine VL.q (q_els (s := l_0) gagg149 rfl rfl hz12_3) (by decide) ?_
  refine VL.alloc (cs := [str [], i64 0, i64 0, str [], i64 0, i64 0]) (by kernel_rfl) (by decide) fun b7_4 => ?_
  refine VL.store (vc := [str z12_3.path, i64 z12_3.stage, i64 z12_3.mode, str z12_3.data, i64 z12_3.time, i64 z12_3.size]) (cs' := [str z12_3.path, i64 z12_3.stage, i64 z12_3.mode, str z12_3.data, i64 z12_3.time, i64 z12_3.size]) rfl rfl rfl gsz149 rfl rfl (Nat.le_of_ble_eq_true rfl) rfl ?_
  refine Zl ?_
  refine Zq (Zr ?_)
  refine VL.q (q_field gfa149_1 rfl) (by decide) ?_
  refine VL.q (q_fe gone3 rfl rfl) (by decide) ?_
  refine Zm ?_
  refine VL.q (q_eql rfl rfl) (by decide) ?_
  refine Zl ?_
  refine VC.cond_dec rfl (fun h17 => ?_) (fun h17 => ?_)
  ·
   replace hS := it_t h17 hS
   refine Zr ?_
   refine Zm ?_
   refine VL.q (q_field gfa149_0 rfl) (by decide) ?_
   refine VL.q (q_fe gone9 rfl rfl) (by decide) ?_
   refine VL.q (q_field gfa149_2 rfl) (by decide) ?_
   refine VL.q (q_fe gone3 rfl rfl) (by decide) ?_
   refine VL.q (q_field gfa149_3 rfl) (by decide) ?_
   refine VL.q (q_fe gone9 rfl rfl) (by decide) ?_
   refine VL.q (q_build (vs := [(0, str z12_3.path), (1, i64 z12_3.mode), (2, str z12_3.data)]) (cs := #[str z12_3.path, i64 z12_3.mode, str z12_3.data]) rfl (by kernel_rfl)) (by decide) ?_
   refine VL.lit (α := FilesFile) (xs := [.tmp 25]) (vs := [.agg #[str z12_3.path, i64 z12_3.mode, str z12_3.data]]) [⟨z12_3.path, z12_3.mode, z12_3.data⟩] Tryz.underlying38 glit42 (by decide) rfl rfl rfl rfl (by decide) (fun _ _ _ _ => trivial) (by decide) (fun s26_5 hs26_5 => ?_) (by decide)
   replace hS := lt_to hs26_5 hS
   obtain ⟨b27, hS⟩ := gd_s hS
   refine VL.app (s := out5_1) (r := s26_5) Tryz.underlying38 gapp42 (by decide) rfl Fo.out (ap1 b27) (ap2 b27 (by decide)) (by decide) (fun s27_7 hs27_7 => ?_)
   replace hS := lt_to hs27_7 hS
   refine Za ?_
   refine Zl ?_
   refine VC.keep [1, 5, 8, 9, 10] rfl ?_
   refine Zr ?_
   obtain ⟨b28, hS⟩ := gd_s hS
   refine VL.q (q_add rfl rfl b28) (by decide) ?_
   refine Zm ?_
   refine VL.rnd (s27_7, (x10_2 + 1)) [1, 5, 8, 9, 10] (fun _ _ h => h) (go2 hS hK1) rfl
  replace hS := it_f h17 hS
  refine Zk ?_
  refine VC.keep [1, 5, 8, 9, 10] rfl ?_
  refine Zr ?_
  obtain ⟨b28, hS⟩ := gd_s hS
  refine VL.q (q_add rfl rfl b28) (by decide) ?_
  refine Zm ?_
  refine VL.rnd (out5_1, (x10_2 + 1)) [1, 5, 8, 9, 10] (fun _ _ h => h) (go2 hS hK1) rfl
 replace hS := it_f h11 hS
 replace hS := up2 hS hK1
 refine Zx ?_
 refine Zq (Zr ?_)
 refine Zm ?_
 refine VL.shut out5_1 42 (fun _ _ _ _ => trivial) ?_
 obtain ⟨y30_9, ey30_9, hS⟩ := bd_s hS
 refine VL.callF (slices_Clip_files_Row_files_File_ct out5_1 ey30_9) rfl (by decide) ?_
 rintro q30_9_0 rfl
 try dsimp only
 refine Za ?_
 refine Zl ?_
 cases hS
 exact VC.ret (fin1 (.inr rfl) rfl rfl q30_9_0 rfl rfl (by (try dsimp only); exact InM.out) (fun _ _ => trivial))
theorem index_Same_1_ct (x_0 : IndexEntry) (y_1 : IndexEntry) {r : Bool} (hS : Sh.index_Same_1 x_0 y_1 = some r) :
 Ct Tryz.prog 157 [.agg #[str x_0.path, i64 x_0.stage, i64 x_0.mode, str x_0.data, i64 x_0.time, i64 x_0.size], .agg #[str y_1.path, i64 y_1.stage, i64 y_1.mode, str y_1.data, i64 y_1.time, i64 y_1.size]] Mo.tt (Ow.emp) (X := Unit) (fun _ => .bool r) (fun _ => True) (fun _ => Mo.tt) (fun _ => Ow.emp) := by
 refine Ct.of Tryz.func157 rfl (by kernel_rfl) Tryz.ntmps157 (by simp) fun c => ?_
 unfold Sh.index_Same_1 at hS
 refine Zq (Zr ?_)
 refine VL.box (cs := [str x_0.path, i64 x_0.stage, i64 x_0.mode, str x_0.data, i64 x_0.time, i64 x_0.size]) rfl rfl (by decide) fun b2_1 => ?_
 refine VL.box (cs := [str y_1.path, i64 y_1.stage, i64 y_1.mode, str y_1.data, i64 y_1.time, i64 y_1.size]) rfl rfl (by decide) fun b3_2 => ?_
 refine Za ?_
 refine Zl ?_
 refine Zq (Zr ?_)
 refine VL.q (q_field gfa149_0 rfl) (by decide) ?_
 refine VL.q (q_fe gone9 rfl rfl) (by decide) ?_
 refine VL.q (q_field gfa149_0 rfl) (by decide) ?_
 refine VL.q (q_fe gone9 rfl rfl) (by decide) ?_
 refine Zs ?_
 refine Zm ?_
 refine VL.split_dec 10 rfl (fun h10 => ?_) (fun h10 => ?_)
 ·
  replace hS := it_t h10 hS
  refine VL.gy rfl rfl (q_field gfa149_1 rfl) (by decide) ?_
  refine VL.gy rfl rfl (q_fe gone3 rfl rfl) (by decide) ?_
  refine VL.gy rfl rfl (q_field gfa149_1 rfl) (by decide) ?_
  refine VL.gy rfl rfl (q_fe gone3 rfl rfl) (by decide) ?_
  refine VL.gy rfl rfl (q_eql rfl rfl) (by decide) ?_
  refine Zt ?_
  refine Zm ?_
  refine VL.split_dec 17 rfl (fun h17 => ?_) (fun h17 => ?_)
  ·
   replace hS := it_t h17 hS
   refine VL.gy rfl rfl (q_field gfa149_2 rfl) (by decide) ?_
   refine VL.gy rfl rfl (q_fe gone3 rfl rfl) (by decide) ?_
   refine VL.gy rfl rfl (q_field gfa149_2 rfl) (by decide) ?_
   refine VL.gy rfl rfl (q_fe gone3 rfl rfl) (by decide) ?_
   refine VL.gy rfl rfl (q_eql rfl rfl) (by decide) ?_
   refine Zt ?_
   refine Zm ?_
   refine VL.split_dec 24 rfl (fun h24 => ?_) (fun h24 => ?_)
   ·
    replace hS := it_t h24 hS
    refine VL.gy rfl rfl (q_field gfa149_3 rfl) (by decide) ?_
    refine VL.gy rfl rfl (q_fe gone9 rfl rfl) (by decide) ?_
    refine VL.gy rfl rfl (q_field gfa149_3 rfl) (by decide) ?_
    refine VL.gy rfl rfl (q_fe gone9 rfl rfl) (by decide) ?_
    refine VL.gy rfl rfl (q_seq rfl rfl) (by decide) ?_
    refine Zt ?_
    refine Za ?_
    refine Zl ?_
    refine VC.keep [4] rfl ?_
    cases hS
    exact Ze
   replace hS := it_f h24 hS
   refine Zn ?_
   refine Zn ?_
   refine Zn ?_
   refine Zn ?_
   refine Zn ?_
   refine Zf ?_
   refine Za ?_
   refine Zl ?_
   refine VC.keep [4] rfl ?_
   cases hS
   exact Ze
  replace hS := it_f h17 hS
  refine Zn ?_
  refine Zn ?_
  refine Zn ?_
  refine Zn ?_
  refine Zn ?_
  refine Zf ?_
  refine Zm ?_
  refine Zn ?_
  refine Zn ?_
  refine Zn ?_
  refine Zn ?_
  refine Zn ?_
  refine Zf ?_
  refine Za ?_
  refine Zl ?_
  refine VC.keep [4] rfl ?_
  cases hS
  exact Ze
 replace hS := it_f h10 hS
 refine Zn ?_
 refine Zn ?_
 refine Zn ?_
 refine Zn ?_
 refine Zn ?_
 refine Zf ?_
 refine Zm ?_
 refine Zn ?_
 refine Zn ?_
 refine Zn ?_
 refine Zn ?_
 refine Zn ?_
 refine Zf ?_
 refine Zm ?_
 refine Zn ?_
 refine Zn ?_
 refine Zn ?_
 refine Zn ?_
 refine Zn ?_
 refine Zf ?_
 refine Za ?_
 refine Zl ?_
 refine VC.keep [4] rfl ?_
 cases hS
 exact Ze
theorem slices_EqualFunc_index_Entry_index_Entry_index_Entry_index_Entry_ct (s1_0 : Sv IndexEntry) (s2_1 : Sv IndexEntry) {r : Bool} (hS : Sh.slices_EqualFunc_index_Entry_index_Entry_index_Entry_index_Entry s1_0.l s2_1.l = some r) :
 Ct Tryz.prog 156 [s1_0.val, s2_1.val, .func (.func 157) #[] #[]] (s1_0.ok.and s2_1.ok) (Ow.emp) (X := Unit) (fun _ => .bool r) (fun _ => True) (fun _ => Mo.tt) (fun _ => Ow.emp) := by
 refine Ct.of Tryz.func156 rfl (by kernel_rfl) Tryz.ntmps156 (by simp) fun c => ?_
 unfold Sh.slices_EqualFunc_index_Entry_index_Entry_index_Entry_index_Entry at hS
 refine Zq (Zr ?_)
 refine Za ?_
 refine Zl ?_
 refine Zq (Zq (Zr ?_))
 refine Zm ?_
 refine VL.q (q_ln (s := s1_0) Tryz.underlying66 rfl) (by decide) ?_
 refine Zm ?_
 refine VL.q (q_ln (s := s2_1) Tryz.underlying66 rfl) (by decide) ?_
 refine VL.q (q_neq rfl rfl) (by decide) ?_
 refine Zl ?_
 refine VC.cond_ndec rfl (fun h14 => ?_) (fun h14 => ?_)
 ·
  replace hS := it_f h14 hS
  refine Zq (Zr ?_)
  refine Za ?_
  refine Zl ?_
  cases hS
  exact Ze
 replace hS := it_t h14 hS
 refine Zk ?_
 refine Zq (Zq (Zr ?_))
 refine Zm ?_
 refine VL.q (q_ln (s := s1_0) Tryz.underlying66 rfl) (by decide) ?_
 refine Zm ?_
 refine Zl ?_
 refine VC.keep [1, 2, 15, 16, 17] rfl ?_
 refine Zb ?_
 refine VC.iter (S := Int) (fun (x17_1 : Int) => x17_1) (fun (x17_1 : Int) => [(1, s2_1.val), (2, .func (.func 157) #[] #[]), (15, s1_0.val), (16, i64 (s1_0.l.length : Int)), (17, i64 x17_1)]) (fun (x17_1 : Int) => Mo.tt) (fun (x17_1 : Int) => Ow.emp) 0 [1, 2, 15, 16, 17] hS rfl ?_
 clear hS
 rintro x17_1 m1 y1 hS hK1
 show VC _ _ _ _ _ [(1, s2_1.val), (2, .func (.func 157) #[] #[]), (15, s1_0.val), (16, i64 (s1_0.l.length : Int)), (17, i64 x17_1)] (Mo.and Mo.tt _) (Ow.emp)
 refine Zq (Zr ?_)
 refine VL.q (q_lss rfl rfl) (by decide) ?_
 refine Zl ?_
 refine Zq ?_
 refine VC.cond_dec rfl (fun h18 => ?_) (fun h18 => ?_)
 ·
  replace hS := it_t h18 hS
  refine Zk ?_
  refine Zq (Zb (Zq (Zr ?_)))
  refine Zm ?_
  obtain ⟨z20_2, nz20_2, hz20_2, hS⟩ := at_s hS
  refine VL.q (q_ixm (s := s1_0) Tryz.underlying66 gsz149 rfl rfl nz20_2 (lt_of_get nz20_2 hz20_2)) (by decide) ?_
  refine VL.q (q_els (s := s1_0) gagg149 rfl rfl hz20_2) (by decide) ?_
  refine VL.alloc (cs := [str [], i64 0, i64 0, str [], i64 0, i64 0]) (by kernel_rfl) (by decide) fun b8_3 => ?_
  refine Za ?_
  refine VL.store (vc := [str z20_2.path, i64 z20_2.stage, i64 z20_2.mode, str z20_2.data, i64 z20_2.time, i64 z20_2.size]) (cs' := [str z20_2.path, i64 z20_2.stage, i64 z20_2.mode, str z20_2.data, i64 z20_2.time, i64 z20_2.size]) rfl rfl rfl gsz149 rfl rfl (Nat.le_of_ble_eq_true rfl) rfl ?_
  refine Zl ?_
  refine Zq (Zr ?_)
  refine Zm ?_
  refine Zm ?_
  obtain ⟨z24_4, nz24_4, hz24_4, hS⟩ := at_s hS
  refine VL.q (q_ixm (s := s2_1) Tryz.underlying66 gsz149 rfl rfl nz24_4 (lt_of_get nz24_4 hz24_4)) (by decide) ?_
  refine VL.q (q_els (s := s2_1) gagg149 rfl rfl hz24_4) (by decide) ?_
  refine VL.alloc (cs := [str [], i64 0, i64 0, str [], i64 0, i64 0]) (by kernel_rfl) (by decide) fun b9_5 => ?_
  refine VL.store (vc := [str z24_4.path, i64 z24_4.stage, i64 z24_4.mode, str z24_4.data, i64 z24_4.time, i64 z24_4.size]) (cs' := [str z24_4.path, i64 z24_4.stage, i64 z24_4.mode, str z24_4.data, i64 z24_4.time, i64 z24_4.size]) rfl rfl rfl gsz149 rfl rfl (Nat.le_of_ble_eq_true rfl) rfl ?_
  refine Zl ?_
  refine VC.keep [1, 2, 15, 16, 17, 8, 9] rfl ?_
  refine Zq (Zr ?_)
  refine Zm ?_
  refine VL.q (q_fes gagg149 rfl rfl) (by decide) ?_
  refine VL.q (q_fes gagg149 rfl rfl) (by decide) ?_
  obtain ⟨y29_6, ey29_6, hS⟩ := bd_s hS
  refine VL.q (q_callV (index_Same_1_ct z20_2 z24_4 ey29_6) rfl rfl (fun _ _ => rfl)) (by decide) ?_
  refine VL.q (q_not rfl) (by decide) ?_
  refine Zl ?_
  refine VC.cond rfl (fun h30 => ?_) (fun h30 => ?_)
  ·
   replace hS := it_t h30 hS
   refine Zq (Zr ?_)
   refine Za ?_
   refine Zl ?_
   refine VC.keep [6] rfl ?_
   replace hS := up2 hS hK1
   cases hS
   exact Ze
  replace hS := it_b h30 hS
  refine Zk ?_
  refine VC.keep [1, 2, 15, 16, 17] rfl ?_
  refine Zr ?_
  obtain ⟨b31, hS⟩ := gd_s hS
  refine VL.q (q_add rfl rfl b31) (by decide) ?_
  refine Zm ?_
  refine VL.rnd (x17_1 + 1) [1, 2, 15, 16, 17] (fun _ _ h => h) (go2 hS hK1) rfl
 replace hS := it_f h18 hS
 replace hS := up2 hS hK1
 refine Zx ?_
 refine Zq (Zr ?_)
 refine Za ?_
 refine Zl ?_
 cases hS
 exact Ze
theorem index_Same_ct (a_0 : Sv IndexEntry) (b_1 : Sv IndexEntry) {r : Bool} (hS : Sh.index_Same a_0.l b_1.l = some r) :
 Ct Tryz.prog 83 [a_0.val, b_1.val] (a_0.ok.and b_1.ok) (Ow.emp) (X := Unit) (fun _ => .bool r) (fun _ => True) (fun _ => Mo.tt) (fun _ => Ow.emp) := by
 refine Ct.of Tryz.func83 rfl (by kernel_rfl) Tryz.ntmps83 (by simp) fun c => ?_
 unfold Sh.index_Same at hS
 refine Zq (Zr ?_)
 refine Za ?_
 refine Zl ?_
 refine Zq (Zr ?_)
 refine Zm ?_
 refine Zm ?_
 obtain ⟨y7_1, ey7_1, hS⟩ := bd_s hS
 refine VL.q (q_call (slices_EqualFunc_index_Entry_index_Entry_index_Entry_index_Entry_ct a_0 b_1 ey7_1) rfl (fun _ _ => rfl)) (by decide) ?_
 refine Za ?_
 refine Zl ?_
 cases hS
 exact Ze
theorem index_Drop_1_ct (x_0 : IndexEntry) (a_1_b : Nat) (a_1 : Str) {r : Bool} (hS : Sh.index_Drop_1 x_0 a_1 = some r) :
 Ct Tryz.prog 158 [.agg #[str x_0.path, i64 x_0.stage, i64 x_0.mode, str x_0.data, i64 x_0.time, i64 x_0.size], ptr a_1_b 0] (Cells a_1_b 0 [str a_1]) (Ow.emp) (X := Unit) (fun _ => .bool r) (fun _ => True) (fun _ => Mo.tt) (fun _ => Ow.emp) := by
 refine Ct.of Tryz.func158 rfl (by kernel_rfl) Tryz.ntmps158 (by simp) fun c => ?_
 unfold Sh.index_Drop_1 at hS
 refine Zq (Zr ?_)
 refine VL.box (cs := [str x_0.path, i64 x_0.stage, i64 x_0.mode, str x_0.data, i64 x_0.time, i64 x_0.size]) rfl rfl (by decide) fun b2_1 => ?_
 refine Za ?_
 refine Zl ?_
 refine Zq (Zr ?_)
 refine VL.q (q_field gfa149_0 rfl) (by decide) ?_
 refine VL.q (q_fe gone9 rfl rfl) (by decide) ?_
 refine VL.q (q_fm gone9 rfl rfl) (by decide) ?_
 refine Zs ?_
 refine Za ?_
 refine Zl ?_
 cases hS
 exact Ze
theorem slices_IndexFunc_index_Entry_index_Entry_v4_ct (s_0 : Sv IndexEntry) (f_1_0_b : Nat) (f_1_0 : Str) {r : Int} (hS : Sh.slices_IndexFunc_index_Entry_index_Entry_v4 s_0.l f_1_0 = some r) :
 Ct Tryz.prog 198 [s_0.val, .func (.func 158) #[] #[ptr f_1_0_b 0]] (s_0.ok.and (Cells f_1_0_b 0 [str f_1_0])) (Ow.emp) (X := Unit) (fun _ => i64 r) (fun _ => True) (fun _ => Mo.tt) (fun _ => Ow.emp) := by
 refine Ct.of Tryz.func198 rfl (by kernel_rfl) Tryz.ntmps198 (by simp) fun c => ?_
 unfold Sh.slices_IndexFunc_index_Entry_index_Entry_v4 at hS
 refine Zq (Zr ?_)
 refine Za ?_
 refine Zl ?_
 refine Zq (Zq (Zr ?_))
 refine Zm ?_
 refine VL.q (q_ln (s := s_0) Tryz.underlying66 rfl) (by decide) ?_
 refine Zm ?_
 refine Zl ?_
 refine Zb ?_
 refine VC.iter (S := Int) (fun (x8_1 : Int) => x8_1) (fun (x8_1 : Int) => [(0, s_0.val), (1, .func (.func 158) #[] #[ptr f_1_0_b 0]), (7, i64 (s_0.l.length : Int)), (8, i64 x8_1)]) (fun (x8_1 : Int) => Mo.tt) (fun (x8_1 : Int) => Ow.emp) 0 [0, 1, 7, 8] hS rfl ?_
 clear hS
 rintro x8_1 m1 y1 hS hK1
 show VC _ _ _ _ _ [(0, s_0.val), (1, .func (.func 158) #[] #[ptr f_1_0_b 0]), (7, i64 (s_0.l.length : Int)), (8, i64 x8_1)] (Mo.and Mo.tt _) (Ow.emp)
 refine Zq (Zr ?_)
 refine VL.q (q_lss rfl rfl) (by decide) ?_
 refine Zl ?_
 refine Zq ?_
 refine VC.cond_dec rfl (fun h9 => ?_) (fun h9 => ?_)
 ·
  replace hS := it_t h9 hS
  refine Zk ?_
  refine Zq (Zb (Zq (Zr ?_)))
  refine Zm ?_
  refine Za ?_
  refine Zl ?_
  refine Zq (Zr ?_)
  refine Zm ?_
  refine Zm ?_
  refine Zm ?_
  obtain ⟨z14_2, nz14_2, hz14_2, hS⟩ := at_s hS
  refine VL.q (q_ixm (s := s_0) Tryz.underlying66 gsz149 rfl rfl nz14_2 (lt_of_get nz14_2 hz14_2)) (by decide) ?_
  refine VL.q (q_els (s := s_0) gagg149 rfl rfl hz14_2) (by decide) ?_
  obtain ⟨y16_3, ey16_3, hS⟩ := bd_s hS
  refine VL.q (q_callVC (vs := [.agg #[str z14_2.path, i64 z14_2.stage, i64 z14_2.mode, str z14_2.data, i64 z14_2.time, i64 z14_2.size]]) (caps := [ptr f_1_0_b 0]) (index_Drop_1_ct z14_2 f_1_0_b f_1_0 ey16_3) rfl rfl (fun _ _ => rfl)) (by decide) ?_
  refine Zl ?_
  refine VC.keep [0, 1, 7, 8, 5, 16] rfl ?_
  refine VC.cond rfl (fun h16 => ?_) (fun h16 => ?_)
  ·
   replace hS := it_t h16 hS
   refine Zq (Zr ?_)
   refine Zm ?_
   refine Za ?_
   refine Zl ?_
   replace hS := up2 hS hK1
   cases hS
   exact Ze
  replace hS := it_b h16 hS
  refine Zk ?_
  refine Zr ?_
  obtain ⟨b18, hS⟩ := gd_s hS
  refine VL.q (q_add rfl rfl b18) (by decide) ?_
  refine Zm ?_
  refine VL.rnd (x8_1 + 1) [0, 1, 7, 8] (fun _ _ h => h) (go2 hS hK1) rfl
 replace hS := it_f h9 hS
 replace hS := up2 hS hK1
 refine Zx ?_
 refine Zq (Zr ?_)
 refine Za ?_
 refine Zl ?_
 cases hS
 exact Ze
theorem slices_DeleteFunc_index_Entry_index_Entry_v2_ct (s_0 : Sv IndexEntry) (del_1_0_b : Nat) (del_1_0 : Str) {r : List IndexEntry} (hS : Sh.slices_DeleteFunc_index_Entry_index_Entry_v2 s_0.l del_1_0 = some r) :
 Ct Tryz.prog 150 [s_0.val, .func (.func 158) #[] #[ptr del_1_0_b 0]] Mo.tt (Ow.star (Sv.own s_0 149) (Blk del_1_0_b [str del_1_0] 9)) (X := Sv IndexEntry) (fun x => x.val) (fun x => r = x.l) (fun x => Mo.tt) (fun x => Ow.star (Sv.own x 149) (Blk del_1_0_b [str del_1_0] 9)) := by
 refine Ct.of Tryz.func150 rfl (by kernel_rfl) Tryz.ntmps150 (by simp) fun c => ?_
 unfold Sh.slices_DeleteFunc_index_Entry_index_Entry_v2 at hS
 refine Zq (Zr ?_)
 refine Za ?_
 refine Zl ?_
 refine Zq (Zr ?_)
 refine Zm ?_
 refine Zm ?_
 obtain ⟨y10_1, ey10_1, hS⟩ := bd_s hS
 refine VL.q (q_callR (slices_IndexFunc_index_Entry_index_Entry_v4_ct s_0 del_1_0_b del_1_0 ey10_1) rfl (fun _ _ => rfl)) (by decide) ?_
 refine Za ?_
 refine Zl ?_
 refine Zq (Zq (Zr ?_))
 refine Zm ?_
 refine VL.q (q_eql rfl rfl) (by decide) ?_
 refine Zl ?_
 refine VC.cond_dec rfl (fun h12 => ?_) (fun h12 => ?_)
 ·
  replace hS := it_t h12 hS
  refine Zq (Zr ?_)
  refine Zm ?_
  refine Za ?_
  refine Zl ?_
  cases hS
  exact VC.ret (fin1 (.inr rfl) rfl rfl s_0 rfl rfl (by (try dsimp only); exact InM.out) (by (try dsimp only); exact EntO.out))
 replace hS := it_f h12 hS
 refine Zk ?_
 refine Zq (Zq (Zr ?_))
 refine Zm ?_
 obtain ⟨b15, hS⟩ := gd_s hS
 refine VL.q (q_add rfl rfl b15) (by decide) ?_
 refine Za ?_
 refine Zl ?_
 refine VC.keep [0, 1, 5, 6] rfl ?_
 refine Zb ?_
 refine VC.iter (S := Sv IndexEntry × Int × Int) (fun sg => (sg.1.l, sg.2.1, sg.2.2)) (fun sg => [(0, sg.1.val), (1, .func (.func 158) #[] #[ptr del_1_0_b 0]), (5, i64 sg.2.1), (6, i64 sg.2.2)]) (fun sg => Mo.tt) (fun sg => Ow.star (Blk del_1_0_b [str del_1_0] 9) (Ow.star (Sv.own sg.1 149) (Ow.emp))) (s_0, y10_1, (y10_1 + 1)) [0, 1, 5, 6] hS rfl ?_
 clear hS
 rintro ⟨s0_2, i5_3, j6_4⟩ m1 y1 hS hK1
 show VC _ _ _ _ _ [(0, s0_2.val), (1, .func (.func 158) #[] #[ptr del_1_0_b 0]), (5, i64 i5_3), (6, i64 j6_4)] (Mo.and Mo.tt _) (Ow.star (Blk del_1_0_b [str del_1_0] 9) (Ow.star (Sv.own s0_2 149) (Ow.emp)))
 refine Zq (Zq (Zr ?_))
 refine Zm ?_
 refine Zm ?_
 refine VL.q (q_ln (s := s0_2) Tryz.underlying66 rfl) (by decide) ?_
 refine VL.q (q_lss rfl rfl) (by decide) ?_
 refine Zl ?_
 refine VC.cond_dec rfl (fun h19 => ?_) (fun h19 => ?_)
 ·
  replace hS := it_t h19 hS
  refine Zk ?_
  refine VC.cutJ (S := Sv IndexEntry × Int) (fun sg => (sg.1.l, sg.2)) (fun sg => [(0, sg.1.val), (1, .func (.func 158) #[] #[ptr del_1_0_b 0]), (5, i64 sg.2), (6, i64 j6_4)]) (fun sg => Mo.tt) (fun sg => Ow.star (Blk del_1_0_b [str del_1_0] 9) (Ow.star (Sv.own sg.1 149) (Ow.emp))) hS ?_ ?_
  ·
   clear hS
   intro k7 hS
   refine Zb (Zq (Zr ?_))
   refine Zm ?_
   refine Zm ?_
   obtain ⟨z24_8, nz24_8, hz24_8, hS⟩ := at_s hS
   refine VL.q (q_ixo (s := s0_2) Tryz.underlying66 gsz149 rfl rfl nz24_8 (lt_of_get nz24_8 hz24_8)) (by decide) ?_
   refine VL.q (q_elso (s := s0_2) gagg149 rfl rfl hz24_8) (by decide) ?_
   refine VL.alloc (cs := [str [], i64 0, i64 0, str [], i64 0, i64 0]) (by kernel_rfl) (by decide) fun b7_9 => ?_
   refine VL.store (vc := [str z24_8.path, i64 z24_8.stage, i64 z24_8.mode, str z24_8.data, i64 z24_8.time, i64 z24_8.size]) (cs' := [str z24_8.path, i64 z24_8.stage, i64 z24_8.mode, str z24_8.data, i64 z24_8.time, i64 z24_8.size]) rfl rfl rfl gsz149 rfl rfl (Nat.le_of_ble_eq_true rfl) rfl ?_
   refine Zl ?_
   refine VC.keep [0, 1, 5, 6, 7] rfl ?_
   refine Zq (Zr ?_)
   refine Zm ?_
   refine VL.q (q_fes gagg149 rfl rfl) (by decide) ?_
   obtain ⟨y28_10, ey28_10, hS⟩ := bd_s hS
   refine VL.q (q_callVC (vs := [.agg #[str z24_8.path, i64 z24_8.stage, i64 z24_8.mode, str z24_8.data, i64 z24_8.time, i64 z24_8.size]]) (caps := [ptr del_1_0_b 0]) (index_Drop_1_ct z24_8 del_1_0_b del_1_0 ey28_10) rfl rfl (fun _ _ => rfl)) (by decide) ?_
   refine VL.q (q_not rfl) (by decide) ?_
   refine Zl ?_
   refine VC.cond rfl (fun h29 => ?_) (fun h29 => ?_)
   ·
    replace hS := it_t h29 hS
    refine Zq (Zr ?_)
    refine Zm ?_
    refine Zm ?_
    refine VL.q (q_fes gagg149 rfl rfl) (by decide) ?_
    obtain ⟨z33_11, nz33_11, hz33_11, hS⟩ := at_s hS
    refine VL.q (q_ixo (s := s0_2) Tryz.underlying66 gsz149 rfl rfl nz33_11 (lt_of_get nz33_11 hz33_11)) (by decide) ?_
    refine VL.storeE (s := s0_2) (T := 149) (j := 0) (vc := [str z24_8.path, i64 z24_8.stage, i64 z24_8.mode, str z24_8.data, i64 z24_8.time, i64 z24_8.size]) (⟨z24_8.path, z24_8.stage, z24_8.mode, z24_8.data, z24_8.time, z24_8.size⟩ : IndexEntry) (by decide) rfl rfl hz33_11 rfl gsz149 rfl rfl (Nat.le_of_ble_eq_true rfl) rfl (fun w12 hw12 haw12 hcw12 hvw12 hbw12 how12 => ?_)
    rw [← hvw12]
    replace hS := lt_to hw12 hS
    refine Zl ?_
    refine VC.keep [0, 1, 5, 6] rfl ?_
    refine Zr ?_
    refine Zm ?_
    obtain ⟨b35, hS⟩ := gd_s hS
    refine VL.q (q_add rfl rfl b35) (by decide) ?_
    refine Za ?_
    refine VL.mt (w12, (i5_3 + 1)) [0, 1, 5, 6] (fun _ _ h => h) hS rfl
   replace hS := it_b h29 hS
   refine VC.skip_mt (s0_2, i5_3) [0, 1, 5, 6] (fun _ _ h => h) hS rfl
  clear hS
  rintro ⟨s0_5, i5_6⟩ hS
  show VC _ _ _ _ _ [(0, s0_5.val), (1, .func (.func 158) #[] #[ptr del_1_0_b 0]), (5, i64 i5_6), (6, i64 j6_4)] (Mo.and Mo.tt _) (Ow.star (Blk del_1_0_b [str del_1_0] 9) (Ow.star (Sv.own s0_5 149) (Ow.emp)))
  refine Zr ?_
  refine Zm ?_
  obtain ⟨b21, hS⟩ := gd_s hS
  refine VL.q (q_add rfl rfl b21) (by decide) ?_
  refine Za ?_
  refine VL.rnd (s0_5, i5_6, (j6_4 + 1)) [0, 1, 5, 6] (fun _ _ h => h) (go2 hS hK1) rfl
 replace hS := it_f h19 hS
 replace hS := up2 hS hK1
 refine Zx ?_
 refine Zq (Zr ?_)
 refine Zm ?_
 refine Zm ?_
 obtain ⟨b38, hS⟩ := gd_s hS
 refine VL.fits (s := s0_2) (e := 149) Fo.out fun f38_14 => ?_
 refine VL.q (q_subv (s := s0_2) Tryz.underlying66 gsz149 rfl rfl b38.1 b38.2 f38_14) (by decide) ?_
 refine VL.clrN (s := s0_2) (i := i5_3.toNat) (.agg #[str [], i64 0, i64 0, str [], i64 0, i64 0]) Tryz.underlying66 gzv149 rfl rfl rfl (by have := b38; dsimp only at this ⊢; omega) Fo.out fun ss3_15 hss3_15 vss3_15 => ?_
 replace hS := lt_to hss3_15 hS
 refine Zl ?_
 refine VC.keep [0, 5] rfl ?_
 refine Zq (Zr ?_)
 refine Zm ?_
 refine Zm ?_
 refine VL.q (q_cutO (s := s0_2) (q := ss3_15) Tryz.underlying66 gsz149 rfl rfl b38.1 b38.2 f38_14 vss3_15) (by decide) ?_
 refine Za ?_
 refine Zl ?_
 cases hS
 exact VC.ret (fin1 (.inr rfl) rfl rfl ss3_15 rfl rfl (by (try dsimp only); exact InM.out) (by (try dsimp only); exact EntO.out))
theorem index_Drop_ct (l_0 : Sv IndexEntry) (p_1 : Str) {r : List IndexEntry} (hS : Sh.index_Drop l_0.l p_1 = some r) :
 Ct Tryz.prog 84 [l_0.val, str p_1] l_0.ok (Ow.emp) (X := Sv IndexEntry) (fun x => x.val) (fun x => r = x.l) (fun x => x.ok) (fun x => Ow.emp) := by
 refine Ct.of Tryz.func84 rfl (by kernel_rfl) Tryz.ntmps84 (by simp) fun c => ?_
 unfold Sh.index_Drop at hS
 refine Zq (Zr ?_)
 refine VL.box (cs := [str p_1]) rfl rfl (by decide) fun b3_1 => ?_
 refine Za ?_
 refine Zl ?_
 refine Zq (Zr ?_)
 refine Zm ?_
 obtain ⟨y6_2, ey6_2, hS⟩ := bd_s hS
 refine VL.callO (slices_Clone_index_Entry_index_Entry_ct l_0 ey6_2) rfl (by decide) ?_
 rintro q6_2_0 rfl
 try dsimp only
 refine VL.q (q_mkfn rfl) (by decide) ?_
 obtain ⟨y8_3, ey8_3, hS⟩ := bd_s hS
 refine VL.callO (slices_DeleteFunc_index_Entry_index_Entry_v2_ct q6_2_0 b3_1 p_1 ey8_3) rfl (by decide) ?_
 rintro q8_3_0 rfl
 try dsimp only
 refine VL.shut q8_3_0 149 (fun _ _ _ _ => trivial) ?_
 obtain ⟨y9_4, ey9_4, hS⟩ := bd_s hS
 refine VL.callF (slices_Clip_index_Entry_index_Entry_ct q8_3_0 ey9_4) rfl (by decide) ?_
 rintro q9_4_0 rfl
 try dsimp only
 refine Za ?_
 refine Zl ?_
 cases hS
 exact VC.ret (fin1 (.inr rfl) rfl rfl q9_4_0 rfl rfl (by (try dsimp only); exact InM.out) (fun _ _ => trivial))
theorem rectolaw15_known_ct  {r : Bool} (hS : Sh.rectolaw15_known = some r) :
 Ct Tryz.prog 32 [] Mo.tt (Ow.emp) (X := Unit) (fun _ => .bool r) (fun _ => True) (fun _ => Mo.tt) (fun _ => Ow.emp) := by
 refine Ct.of Tryz.func32 rfl (by kernel_rfl) Tryz.ntmps32 (by simp) fun c => ?_
 unfold Sh.rectolaw15_known at hS
 refine Zq (Zr ?_)
 refine Za ?_
 refine Zl ?_
 refine Zq (Zr ?_)
 refine VL.q (q_build (vs := [(0, str [97]), (1, i64 1), (2, str [120])]) (cs := #[str [97], i64 1, str [120]]) rfl (by kernel_rfl)) (by decide) ?_
 refine VL.lit (α := FilesFile) (xs := [.tmp 9]) (vs := [.agg #[str [97], i64 1, str [120]]]) [⟨[97], 1, [120]⟩] Tryz.underlying38 glit42 (by decide) rfl rfl rfl rfl (by decide) (fun _ _ _ _ => trivial) (by decide) (fun s10_1 hs10_1 => ?_) (by decide)
 replace hS := lt_to hs10_1 hS
 obtain ⟨y11_3, ey11_3, hS⟩ := bd_s hS
 refine VL.callF (index_Of_ct s10_1 ey11_3) rfl (by decide) ?_
 rintro q11_3_0 rfl
 try dsimp only
 refine Za ?_
 refine Zl ?_
 refine Zq (Zr ?_)
 refine Zm ?_
 refine VL.q (q_build (vs := [(0, str [97]), (1, i64 2), (2, i64 1), (3, str [121])]) (cs := #[str [97], i64 2, i64 1, str [121], i64 0, i64 0]) rfl (by kernel_rfl)) (by decide) ?_
 obtain ⟨y14_4, ey14_4, hS⟩ := bd_s hS
 refine VL.callF (index_Put_ct q11_3_0 (⟨[97], 2, 1, [121], 0, 0⟩ : IndexEntry) ey14_4) rfl (by decide) ?_
 rintro q14_4_0 rfl
 try dsimp only
 refine Za ?_
 refine Zl ?_
 refine Zq (Zr ?_)
 refine Zm ?_
 refine VL.q (q_build (vs := [(0, str [97]), (1, i64 1), (2, i64 1), (3, str [122])]) (cs := #[str [97], i64 1, i64 1, str [122], i64 0, i64 0]) rfl (by kernel_rfl)) (by decide) ?_
 obtain ⟨y17_5, ey17_5, hS⟩ := bd_s hS
 refine VL.callF (index_Put_ct q14_4_0 (⟨[97], 1, 1, [122], 0, 0⟩ : IndexEntry) ey17_5) rfl (by decide) ?_
 rintro q17_5_0 rfl
 try dsimp only
 refine Za ?_
 refine Zl ?_
 refine VC.keep [1, 2, 3] rfl ?_
 refine Zq (Zr ?_)
 refine Zm ?_
 obtain ⟨y19_6, ey19_6, hS⟩ := bd_s hS
 refine VL.callF (index_Conflicts_ct q17_5_0 ey19_6) rfl (by decide) ?_
 rintro q19_6_0 rfl
 try dsimp only
 refine Za ?_
 refine Zl ?_
 refine Zq (Zr ?_)
 refine Zm ?_
 obtain ⟨y22_7, ey22_7, hS⟩ := bd_s hS
 refine VL.callO (index_Encode_ct q17_5_0 ey22_7) rfl (by decide) ?_
 rintro ⟨q22_7_0, q22_7_1⟩ rfl
 try dsimp only
 refine Zm ?_
 refine VL.q (q_extract rfl rfl) (by decide) ?_
 refine VL.q (q_extract rfl rfl) (by decide) ?_
 refine Za ?_
 refine Za ?_
 refine Zl ?_
 refine VC.keep [1, 2, 3, 4, 5, 6] rfl ?_
 refine Zq (Zr ?_)
 refine Zm ?_
 refine VL.shut q22_7_0 5 (fun _ _ _ _ => trivial) ?_
 obtain ⟨y27_8, ey27_8, hS⟩ := bd_s hS
 refine VL.callF (index_Decode_ct q22_7_0 ey27_8) rfl (by decide) ?_
 rintro ⟨q27_8_0, q27_8_1⟩ rfl
 try dsimp only
 refine Zm ?_
 refine VL.q (q_extract rfl rfl) (by decide) ?_
 refine VL.q (q_extract rfl rfl) (by decide) ?_
 refine Za ?_
 refine Za ?_
 refine Zl ?_
 refine Zq (Zr ?_)
 refine Zm ?_
 refine VL.q (q_ln (s := q11_3_0) Tryz.underlying66 rfl) (by decide) ?_
 refine VL.q (q_eql rfl rfl) (by decide) ?_
 refine Zm ?_
 refine VL.split_dec 33 rfl (fun h33 => ?_) (fun h33 => ?_)
 ·
  replace hS := it_t h33 hS
  refine Zg ?_
  refine VL.gy rfl rfl (q_ln (s := q14_4_0) Tryz.underlying66 rfl) (by decide) ?_
  refine VL.gy rfl rfl (q_eql rfl rfl) (by decide) ?_
  refine Zt ?_
  refine Zm ?_
  refine VL.split_dec 38 rfl (fun h38 => ?_) (fun h38 => ?_)
  ·
   replace hS := it_t h38 hS
   refine Zg ?_
   refine VL.gy rfl rfl (q_ln (s := q17_5_0) Tryz.underlying66 rfl) (by decide) ?_
   refine VL.gy rfl rfl (q_eql rfl rfl) (by decide) ?_
   refine Zt ?_
   refine Zm ?_
   refine VL.split_dec 43 rfl (fun h43 => ?_) (fun h43 => ?_)
   ·
    replace hS := it_t h43 hS
    refine Zg ?_
    obtain ⟨z45_9, nz45_9, hz45_9, hS⟩ := at_s hS
    refine VL.gy rfl rfl (q_ixm (s := q17_5_0) Tryz.underlying66 gsz149 rfl rfl nz45_9 (lt_of_get nz45_9 hz45_9)) (by decide) ?_
    refine VL.gy rfl rfl (q_field gfa149_1 rfl) (by decide) ?_
    refine VL.gy rfl rfl (q_elf (s := q17_5_0) gone3 rfl hz45_9 rfl) (by decide) ?_
    refine VL.gy rfl rfl (q_eql rfl rfl) (by decide) ?_
    refine Zt ?_
    refine Zm ?_
    refine VL.split_dec 50 rfl (fun h50 => ?_) (fun h50 => ?_)
    ·
     replace hS := it_t h50 hS
     refine Zg ?_
     refine VL.gy rfl rfl (q_ln (s := q19_6_0) Tryz.underlying82 rfl) (by decide) ?_
     refine VL.gy rfl rfl (q_eql rfl rfl) (by decide) ?_
     refine Zt ?_
     refine Zm ?_
     refine VL.split_dec 55 rfl (fun h55 => ?_) (fun h55 => ?_)
     ·
      replace hS := it_t h55 hS
      refine Zg ?_
      refine VL.guard rfl rfl ?_
      obtain ⟨y57_10, ey57_10, hS⟩ := bd_s hS
      refine VL.callF (index_Stage_ct q17_5_0 2 ey57_10) rfl (by decide) ?_
      rintro q57_10_0 rfl
      try dsimp only
      refine VL.gy rfl rfl (q_ln (s := q57_10_0) Tryz.underlying38 rfl) (by decide) ?_
      refine VL.gy rfl rfl (q_eql rfl rfl) (by decide) ?_
      refine Zt ?_
      refine Zm ?_
      refine VL.split_dec 61 rfl (fun h61 => ?_) (fun h61 => ?_)
      ·
       replace hS := it_t h61 hS
       refine Zg ?_
       refine VL.gy rfl rfl (q_ereq Tryz.underlying29 rfl) (by decide) ?_
       refine Zt ?_
       refine Zm ?_
       refine VL.split_dec 65 rfl (fun h65 => ?_) (fun h65 => ?_)
       ·
        replace hS := it_t h65 hS
        refine Zg ?_
        refine VL.gy rfl rfl (q_ereq Tryz.underlying29 rfl) (by decide) ?_
        refine Zt ?_
        refine Zm ?_
        refine VL.split_dec 69 rfl (fun h69 => ?_) (fun h69 => ?_)
        ·
         replace hS := it_t h69 hS
         refine Zg ?_
         refine Zg ?_
         obtain ⟨y72_11, ey72_11, hS⟩ := bd_s hS
         refine VL.gy rfl rfl (q_call (index_Same_ct q27_8_0 q17_5_0 ey72_11) rfl (fun _ _ => rfl)) (by decide) ?_
         refine Zt ?_
         refine Zm ?_
         refine VL.split 74 rfl (fun h74 => ?_) (fun h74 => ?_)
         ·
          replace hS := it_t h74 hS
          refine Zg ?_
          refine VL.guard rfl rfl ?_
          obtain ⟨y76_12, ey76_12, hS⟩ := bd_s hS
          refine VL.callF (index_Drop_ct q17_5_0 [97] ey76_12) rfl (by decide) ?_
          rintro q76_12_0 rfl
          try dsimp only
          refine VL.gy rfl rfl (q_ln (s := q76_12_0) Tryz.underlying66 rfl) (by decide) ?_
          refine VL.gy rfl rfl (q_eql rfl rfl) (by decide) ?_
          refine Zt ?_
          refine Zm ?_
          refine VL.split_dec 80 rfl (fun h80 => ?_) (fun h80 => ?_)
          ·
           replace hS := it_t h80 hS
           refine Zg ?_
           refine VL.guard rfl rfl ?_
           obtain ⟨y82_13, ey82_13, hS⟩ := bd_s hS
           refine VL.callF (index_Check_ct q17_5_0 ey82_13) rfl (by decide) ?_
           rintro q82_13_0 rfl
           try dsimp only
           refine VL.gy rfl rfl (q_ereq Tryz.underlying29 rfl) (by decide) ?_
           refine Zt ?_
           refine Zm ?_
           refine VL.split_dec 85 rfl (fun h85 => ?_) (fun h85 => ?_)
           ·
            replace hS := it_t h85 hS
            refine Zg ?_
            refine Zg ?_
            obtain ⟨z88_14, nz88_14, hz88_14, hS⟩ := at_s hS
            refine VL.gy rfl rfl (q_ixm (s := q11_3_0) Tryz.underlying66 gsz149 rfl rfl nz88_14 (lt_of_get nz88_14 hz88_14)) (by decide) ?_
            refine VL.gy rfl rfl (q_els (s := q11_3_0) gagg149 rfl rfl hz88_14) (by decide) ?_
            refine VL.guard rfl rfl ?_
            obtain ⟨y90_15, ey90_15, hS⟩ := bd_s hS
            refine VL.callF (index_Put_ct q17_5_0 z88_14 ey90_15) rfl (by decide) ?_
            rintro q90_15_0 rfl
            try dsimp only
            refine VL.gy rfl rfl (q_ln (s := q90_15_0) Tryz.underlying66 rfl) (by decide) ?_
            refine VL.gy rfl rfl (q_eql rfl rfl) (by decide) ?_
            refine Zt ?_
            refine Za ?_
            refine Zl ?_
            refine VC.keep [0] rfl ?_
            cases hS
            exact Ze
           replace hS := it_f h85 hS
           refine Zn ?_
           refine Zn ?_
           refine Zn ?_
           refine Zn ?_
           refine Zn ?_
           refine Zn ?_
           refine Zn ?_
           refine Zf ?_
           refine Za ?_
           refine Zl ?_
           refine VC.keep [0] rfl ?_
           cases hS
           exact Ze
          replace hS := it_f h80 hS
          refine Zn ?_
          refine Zn ?_
          refine Zn ?_
          refine Zf ?_
          refine Zm ?_
          refine Zn ?_
          refine Zn ?_
          refine Zn ?_
          refine Zn ?_
          refine Zn ?_
          refine Zn ?_
          refine Zn ?_
          refine Zf ?_
          refine Za ?_
          refine Zl ?_
          refine VC.keep [0] rfl ?_
          cases hS
          exact Ze
         replace hS := it_b h74 hS
         refine Zn ?_
         refine Zn ?_
         refine Zn ?_
         refine Zn ?_
         refine Zf ?_
         refine Zm ?_
         refine Zn ?_
         refine Zn ?_
         refine Zn ?_
         refine Zf ?_
         refine Zm ?_
         refine Zn ?_
         refine Zn ?_
         refine Zn ?_
         refine Zn ?_
         refine Zn ?_
         refine Zn ?_
         refine Zn ?_
         refine Zf ?_
         refine Za ?_
         refine Zl ?_
         refine VC.keep [0] rfl ?_
         cases hS
         exact Ze
        replace hS := it_f h69 hS
        refine Zn ?_
        refine Zn ?_
        refine Zn ?_
        refine Zf ?_
        refine Zm ?_
        refine Zn ?_
        refine Zn ?_
        refine Zn ?_
        refine Zn ?_
        refine Zf ?_
        refine Zm ?_
        refine Zn ?_
        refine Zn ?_
        refine Zn ?_
        refine Zf ?_
        refine Zm ?_
        refine Zn ?_
        refine Zn ?_
        refine Zn ?_
        refine Zn ?_
        refine Zn ?_
        refine Zn ?_
        refine Zn ?_
        refine Zf ?_
        refine Za ?_
        refine Zl ?_
        refine VC.keep [0] rfl ?_
        cases hS
        exact Ze
       replace hS := it_f h65 hS
       refine Zn ?_
       refine Zn ?_
       refine Zf ?_
       refine Zm ?_
       refine Zn ?_
       refine Zn ?_
       refine Zn ?_
       refine Zf ?_
       refine Zm ?_
       refine Zn ?_
       refine Zn ?_
       refine Zn ?_
       refine Zn ?_
       refine Zf ?_
       refine Zm ?_
       refine Zn ?_
       refine Zn ?_
       refine Zn ?_
       refine Zf ?_
       refine Zm ?_
       refine Zn ?_
       refine Zn ?_
       refine Zn ?_
       refine Zn ?_
       refine Zn ?_
       refine Zn ?_
       refine Zn ?_
       refine Zf ?_
       refine Za ?_
       refine Zl ?_
       refine VC.keep [0] rfl ?_
       cases hS
       exact Ze
      replace hS := it_f h61 hS
      refine Zn ?_
      refine Zn ?_
      refine Zf ?_
      refine Zm ?_
      refine Zn ?_
      refine Zn ?_
      refine Zf ?_
      refine Zm ?_
      refine Zn ?_
      refine Zn ?_
      refine Zn ?_
      refine Zf ?_
      refine Zm ?_
      refine Zn ?_
      refine Zn ?_
      refine Zn ?_
      refine Zn ?_
      refine Zf ?_
      refine Zm ?_
      refine Zn ?_
      refine Zn ?_
      refine Zn ?_
      refine Zf ?_
      refine Zm ?_
      refine Zn ?_
      refine Zn ?_
      refine Zn ?_
      refine Zn ?_
      refine Zn ?_
      refine Zn ?_
      refine Zn ?_
      refine Zf ?_
      refine Za ?_
      refine Zl ?_
      refine VC.keep [0] rfl ?_
      cases hS
      exact Ze
     replace hS := it_f h55 hS
     refine Zn ?_
     refine Zn ?_
     refine Zn ?_
     refine Zn ?_
     refine Zf ?_
     refine Zm ?_
     refine Zn ?_
     refine Zn ?_
     refine Zf ?_
     refine Zm ?_
     refine Zn ?_
     refine Zn ?_
     refine Zf ?_
     refine Zm ?_
     refine Zn ?_
     refine Zn ?_
     refine Zn ?_
     refine Zf ?_
     refine Zm ?_
     refine Zn ?_
     refine Zn ?_
     refine Zn ?_
     refine Zn ?_
     refine Zf ?_
     refine Zm ?_
     refine Zn ?_
     refine Zn ?_
     refine Zn ?_
     refine Zf ?_
     refine Zm ?_
     refine Zn ?_
     refine Zn ?_
     refine Zn ?_
     refine Zn ?_
     refine Zn ?_
     refine Zn ?_
     refine Zn ?_
     refine Zf ?_
     refine Za ?_
     refine Zl ?_
     refine VC.keep [0] rfl ?_
     cases hS
     exact Ze
    replace hS := it_f h50 hS
    refine Zn ?_
    refine Zn ?_
    refine Zn ?_
    refine Zf ?_
    refine Zm ?_
    refine Zn ?_
    refine Zn ?_
    refine Zn ?_
    refine Zn ?_
    refine Zf ?_
    refine Zm ?_
    refine Zn ?_
    refine Zn ?_
    refine Zf ?_
    refine Zm ?_
    refine Zn ?_
    refine Zn ?_
    refine Zf ?_
    refine Zm ?_
    refine Zn ?_
    refine Zn ?_
    refine Zn ?_
    refine Zf ?_
    refine Zm ?_
    refine Zn ?_
    refine Zn ?_
    refine Zn ?_
    refine Zn ?_
    refine Zf ?_
    refine Zm ?_
    refine Zn ?_
    refine Zn ?_
    refine Zn ?_
    refine Zf ?_
    refine Zm ?_
    refine Zn ?_
    refine Zn ?_
    refine Zn ?_
    refine Zn ?_
    refine Zn ?_
    refine Zn ?_
    refine Zn ?_
    refine Zf ?_
    refine Za ?_
    refine Zl ?_
    refine VC.keep [0] rfl ?_
    cases hS
    exact Ze
   replace hS := it_f h43 hS
   refine Zn ?_
   refine Zn ?_
   refine Zn ?_
   refine Zn ?_
   refine Zn ?_
   refine Zf ?_
   refine Zm ?_
   refine Zn ?_
   refine Zn ?_
   refine Zn ?_
   refine Zf ?_
   refine Zm ?_
   refine Zn ?_
   refine Zn ?_
   refine Zn ?_
   refine Zn ?_
   refine Zf ?_
   refine Zm ?_
   refine Zn ?_
   refine Zn ?_
   refine Zf ?_
   refine Zm ?_
   refine Zn ?_
   refine Zn ?_
   refine Zf ?_
   refine Zm ?_
   refine Zn ?_
   refine Zn ?_
   refine Zn ?_
   refine Zf ?_
   refine Zm ?_
   refine Zn ?_
   refine Zn ?_
   refine Zn ?_
   refine Zn ?_
   refine Zf ?_
   refine Zm ?_
   refine Zn ?_
   refine Zn ?_
   refine Zn ?_
   refine Zf ?_
   refine Zm ?_
   refine Zn ?_
   refine Zn ?_
   refine Zn ?_
   refine Zn ?_
   refine Zn ?_
   refine Zn ?_
   refine Zn ?_
   refine Zf ?_
   refine Za ?_
   refine Zl ?_
   refine VC.keep [0] rfl ?_
   cases hS
   exact Ze
  replace hS := it_f h38 hS
  refine Zn ?_
  refine Zn ?_
  refine Zn ?_
  refine Zf ?_
  refine Zm ?_
  refine Zn ?_
  refine Zn ?_
  refine Zn ?_
  refine Zn ?_
  refine Zn ?_
  refine Zf ?_
  refine Zm ?_
  refine Zn ?_
  refine Zn ?_
  refine Zn ?_
  refine Zf ?_
  refine Zm ?_
  refine Zn ?_
  refine Zn ?_
  refine Zn ?_
  refine Zn ?_
  refine Zf ?_
  refine Zm ?_
  refine Zn ?_
  refine Zn ?_
  refine Zf ?_
  refine Zm ?_
  refine Zn ?_
  refine Zn ?_
  refine Zf ?_
  refine Zm ?_
  refine Zn ?_
  refine Zn ?_
  refine Zn ?_
  refine Zf ?_
  refine Zm ?_
  refine Zn ?_
  refine Zn ?_
  refine Zn ?_
  refine Zn ?_
  refine Zf ?_
  refine Zm ?_
  refine Zn ?_
  refine Zn ?_
  refine Zn ?_
  refine Zf ?_
  refine Zm ?_
  refine Zn ?_
  refine Zn ?_
  refine Zn ?_
  refine Zn ?_
  refine Zn ?_
  refine Zn ?_
  refine Zn ?_
  refine Zf ?_
  refine Za ?_
  refine Zl ?_
  refine VC.keep [0] rfl ?_
  cases hS
  exact Ze
 replace hS := it_f h33 hS
 refine Zn ?_
 refine Zn ?_
 refine Zn ?_
 refine Zf ?_
 refine Zm ?_
 refine Zn ?_
 refine Zn ?_
 refine Zn ?_
 refine Zf ?_
 refine Zm ?_
 refine Zn ?_
 refine Zn ?_
 refine Zn ?_
 refine Zn ?_
 refine Zn ?_
 refine Zf ?_
 refine Zm ?_
 refine Zn ?_
 refine Zn ?_
 refine Zn ?_
 refine Zf ?_
 refine Zm ?_
 refine Zn ?_
 refine Zn ?_
 refine Zn ?_
 refine Zn ?_
 refine Zf ?_
 refine Zm ?_
 refine Zn ?_
 refine Zn ?_
 refine Zf ?_
 refine Zm ?_
 refine Zn ?_
 refine Zn ?_
 refine Zf ?_
 refine Zm ?_
 refine Zn ?_
 refine Zn ?_
 refine Zn ?_
 refine Zf ?_
 refine Zm ?_
 refine Zn ?_
 refine Zn ?_
 refine Zn ?_
 refine Zn ?_
 refine Zf ?_
 refine Zm ?_
 refine Zn ?_
 refine Zn ?_
 refine Zn ?_
 refine Zf ?_
 refine Zm ?_
 refine Zn ?_
 refine Zn ?_
 refine Zn ?_
 refine Zn ?_
 refine Zn ?_
 refine Zn ?_
 refine Zn ?_
 refine Zf ?_
 refine Za ?_
 refine Zl ?_
 refine VC.keep [0] rfl ?_
 cases hS
 exact Ze
theorem rectolaw15_Few_ct (l_0 : Sv IndexEntry) {r : Bool} (hS : Sh.rectolaw15_Few l_0.l = some r) :
 Ct Tryz.prog 33 [l_0.val] l_0.ok (Ow.emp) (X := Unit) (fun _ => .bool r) (fun _ => True) (fun _ => Mo.tt) (fun _ => Ow.emp) := by
 refine Ct.of Tryz.func33 rfl (by kernel_rfl) Tryz.ntmps33 (by simp) fun c => ?_
 unfold Sh.rectolaw15_Few at hS
 refine Zq (Zr ?_)
 refine Za ?_
 refine Zl ?_
 refine Zq (Zq (Zr ?_))
 refine Zm ?_
 refine VL.q (q_ln (s := l_0) Tryz.underlying66 rfl) (by decide) ?_
 refine VL.q (q_gtr rfl rfl) (by decide) ?_
 refine Zl ?_
 refine VC.cond_dec rfl (fun h6 => ?_) (fun h6 => ?_)
 ·
  replace hS := it_t h6 hS
  refine Zq (Zr ?_)
  refine Za ?_
  refine Zl ?_
  cases hS
  exact Ze
 replace hS := it_f h6 hS
 refine Zk ?_
 refine Zq (Zq (Zr ?_))
 refine Za ?_
 refine Zl ?_
 refine Zb ?_
 refine VC.iter (S := Int) (fun (i3_1 : Int) => i3_1) (fun (i3_1 : Int) => [(0, l_0.val), (3, i64 i3_1)]) (fun (i3_1 : Int) => Mo.tt) (fun (i3_1 : Int) => Ow.emp) 0 [0, 3] hS rfl ?_
 clear hS
 rintro i3_1 m1 y1 hS hK1
 show VC _ _ _ _ _ [(0, l_0.val), (3, i64 i3_1)] (Mo.and Mo.tt _) (Ow.emp)
 refine Zq (Zq (Zr ?_))
 refine Zm ?_
 refine Zm ?_
 refine VL.q (q_ln (s := l_0) Tryz.underlying66 rfl) (by decide) ?_
 refine VL.q (q_lss rfl rfl) (by decide) ?_
 refine Zl ?_
 refine VC.cond_dec rfl (fun h10 => ?_) (fun h10 => ?_)
 ·
  replace hS := it_t h10 hS
  refine Zk ?_
  refine Zq (Zb ?_)
  refine VC.cutJ (S := Bool) (fun (x28_2 : Bool) => x28_2) (fun (x28_2 : Bool) => [(0, l_0.val), (3, i64 i3_1), (28, .bool x28_2)]) (fun (x28_2 : Bool) => Mo.tt) (fun (x28_2 : Bool) => Ow.emp) hS ?_ ?_
  ·
   clear hS
   intro k3 hS
   refine Zr ?_
   refine Zm ?_
   refine Zm ?_
   obtain ⟨z15_4, nz15_4, hz15_4, hS⟩ := at_s hS
   refine VL.q (q_ixm (s := l_0) Tryz.underlying66 gsz149 rfl rfl nz15_4 (lt_of_get nz15_4 hz15_4)) (by decide) ?_
   refine VL.q (q_field gfa149_0 rfl) (by decide) ?_
   refine VL.q (q_elf (s := l_0) gone9 rfl hz15_4 rfl) (by decide) ?_
   refine VL.q (q_slen Tryz.underlying9 rfl) (by decide) ?_
   refine VL.q (q_gtr rfl rfl) (by decide) ?_
   refine Zm ?_
   refine VL.split_dec 20 rfl (fun h20 => ?_) (fun h20 => ?_)
   ·
    replace hS := it_t h20 hS
    refine Zn ?_
    refine Zn ?_
    refine Zn ?_
    refine Zn ?_
    refine Zn ?_
    refine Zn ?_
    refine Zn ?_
    refine Zt ?_
    refine VL.mt true [0, 3, 28] (fun _ _ h => h) hS rfl
   replace hS := it_f h20 hS
   refine Zg ?_
   refine Zg ?_
   obtain ⟨z23_5, nz23_5, hz23_5, hS⟩ := at_s hS
   refine VL.gy rfl rfl (q_ixm (s := l_0) Tryz.underlying66 gsz149 rfl rfl nz23_5 (lt_of_get nz23_5 hz23_5)) (by decide) ?_
   refine VL.gy rfl rfl (q_field gfa149_3 rfl) (by decide) ?_
   refine VL.gy rfl rfl (q_elf (s := l_0) gone9 rfl hz23_5 rfl) (by decide) ?_
   refine VL.gy rfl rfl (q_slen Tryz.underlying9 rfl) (by decide) ?_
   refine VL.gy rfl rfl (q_gtr rfl rfl) (by decide) ?_
   refine Zf ?_
   refine VL.mt (decide (5000 < (z23_5.data.length : Int))) [0, 3, 28] (fun _ _ h => h) hS rfl
  clear hS
  rintro x28_2 hS
  show VC _ _ _ _ _ [(0, l_0.val), (3, i64 i3_1), (28, .bool x28_2)] (Mo.and Mo.tt _) (Ow.emp)
  refine VC.cond rfl (fun h28 => ?_) (fun h28 => ?_)
  ·
   replace hS := it_t h28 hS
   refine Zq (Zr ?_)
   refine Za ?_
   refine Zl ?_
   replace hS := up2 hS hK1
   cases hS
   exact Ze
  replace hS := it_b h28 hS
  refine Zk ?_
  refine Zr ?_
  refine Zm ?_
  obtain ⟨b12, hS⟩ := gd_s hS
  refine VL.q (q_add rfl rfl b12) (by decide) ?_
  refine Za ?_
  refine VL.rnd (i3_1 + 1) [0, 3] (fun _ _ h => h) (go2 hS hK1) rfl
 replace hS := it_f h10 hS
 replace hS := up2 hS hK1
 refine Zx ?_
 refine Zq (Zr ?_)
 refine Za ?_
 refine Zl ?_
 cases hS
 exact Ze
theorem rectolaw15_Of_ct (l_0 : Sv IndexEntry) {r : List Rectoref14Entry} (hS : Sh.rectolaw15_Of l_0.l = some r) :
 Ct Tryz.prog 34 [l_0.val] l_0.ok (Ow.emp) (X := Sv Rectoref14Entry) (fun x => x.val) (fun x => r = x.l) (fun x => Mo.tt) (fun x => Sv.own x 152) := by
 refine Ct.of Tryz.func34 rfl (by kernel_rfl) Tryz.ntmps34 (by simp) fun c => ?_
 unfold Sh.rectolaw15_Of at hS
 refine Zq (Zr ?_)
 refine Za ?_
 refine Zl ?_
 refine Zq (Zr ?_)
 refine Za ?_
 refine Zl ?_
 refine Zq (Zq (Zr ?_))
 refine Za ?_
 refine Zl ?_
 refine Zb ?_
 refine VC.nilO (⟨none, 0, []⟩ : Sv Rectoref14Entry) 152 ⟨rfl, rfl⟩ ?_
 refine VC.iter (S := Sv Rectoref14Entry × Int) (fun sg => (sg.1.l, sg.2)) (fun sg => [(0, l_0.val), (3, sg.1.val), (4, i64 sg.2)]) (fun sg => Mo.tt) (fun sg => Ow.star (Sv.own sg.1 152) (Ow.emp)) (⟨none, 0, []⟩, 0) [0, 3, 4] hS rfl ?_
 clear hS
 rintro ⟨out3_1, i4_2⟩ m1 y1 hS hK1
 show VC _ _ _ _ _ [(0, l_0.val), (3, out3_1.val), (4, i64 i4_2)] (Mo.and Mo.tt _) (Ow.star (Sv.own out3_1 152) (Ow.emp))
 refine Zq (Zq (Zr ?_))
 refine Zm ?_
 refine Zm ?_
 refine VL.q (q_ln (s := l_0) Tryz.underlying66 rfl) (by decide) ?_
 refine VL.q (q_lss rfl rfl) (by decide) ?_
 refine Zl ?_
 refine VC.cond_dec rfl (fun h9 => ?_) (fun h9 => ?_)
 ·
  replace hS := it_t h9 hS
  refine Zk ?_
  refine Zq (Zb (Zq (Zr ?_)))
  refine Zm ?_
  refine Zm ?_
  obtain ⟨z14_3, nz14_3, hz14_3, hS⟩ := at_s hS
  refine VL.q (q_ixm (s := l_0) Tryz.underlying66 gsz149 rfl rfl nz14_3 (lt_of_get nz14_3 hz14_3)) (by decide) ?_
  refine VL.q (q_els (s := l_0) gagg149 rfl rfl hz14_3) (by decide) ?_
  refine VL.alloc (cs := [str [], i64 0, i64 0, str [], i64 0, i64 0]) (by kernel_rfl) (by decide) fun b5_4 => ?_
  refine VL.store (vc := [str z14_3.path, i64 z14_3.stage, i64 z14_3.mode, str z14_3.data, i64 z14_3.time, i64 z14_3.size]) (cs' := [str z14_3.path, i64 z14_3.stage, i64 z14_3.mode, str z14_3.data, i64 z14_3.time, i64 z14_3.size]) rfl rfl rfl gsz149 rfl rfl (Nat.le_of_ble_eq_true rfl) rfl ?_
  refine Zl ?_
  refine VC.keep [0, 3, 4, 5] rfl ?_
  refine Zr ?_
  refine Zm ?_
  refine VL.q (q_field gfa149_0 rfl) (by decide) ?_
  refine VL.q (q_fe gone9 rfl rfl) (by decide) ?_
  refine VL.q (q_field gfa149_1 rfl) (by decide) ?_
  refine VL.q (q_fe gone3 rfl rfl) (by decide) ?_
  refine VL.q (q_field gfa149_2 rfl) (by decide) ?_
  refine VL.q (q_fe gone3 rfl rfl) (by decide) ?_
  refine VL.q (q_field gfa149_3 rfl) (by decide) ?_
  refine VL.q (q_fe gone9 rfl rfl) (by decide) ?_
  refine VL.q (q_field gfa149_4 rfl) (by decide) ?_
  refine VL.q (q_fe gone3 rfl rfl) (by decide) ?_
  refine VL.q (q_field gfa149_5 rfl) (by decide) ?_
  refine VL.q (q_fe gone3 rfl rfl) (by decide) ?_
  refine VL.q (q_build (vs := [(0, str z14_3.path), (1, i64 z14_3.stage), (2, i64 z14_3.mode), (3, str z14_3.data), (4, i64 z14_3.time), (5, i64 z14_3.size)]) (cs := #[str z14_3.path, i64 z14_3.stage, i64 z14_3.mode, str z14_3.data, i64 z14_3.time, i64 z14_3.size]) rfl (by kernel_rfl)) (by decide) ?_
  refine VL.lit (α := Rectoref14Entry) (xs := [.tmp 29]) (vs := [.agg #[str z14_3.path, i64 z14_3.stage, i64 z14_3.mode, str z14_3.data, i64 z14_3.time, i64 z14_3.size]]) [⟨z14_3.path, z14_3.stage, z14_3.mode, z14_3.data, z14_3.time, z14_3.size⟩] Tryz.underlying68 glit152 (by decide) rfl rfl rfl rfl (by decide) (fun _ _ _ _ => trivial) (by decide) (fun s30_5 hs30_5 => ?_) (by decide)
  replace hS := lt_to hs30_5 hS
  obtain ⟨b31, hS⟩ := gd_s hS
  refine VL.app (s := out3_1) (r := s30_5) Tryz.underlying68 gapp152 (by decide) rfl Fo.out (ap1 b31) (ap2 b31 (by decide)) (by decide) (fun s31_7 hs31_7 => ?_)
  replace hS := lt_to hs31_7 hS
  refine Za ?_
  refine Zl ?_
  refine VC.keep [0, 3, 4] rfl ?_
  refine Zr ?_
  refine Zm ?_
  obtain ⟨b11, hS⟩ := gd_s hS
  refine VL.q (q_add rfl rfl b11) (by decide) ?_
  refine Za ?_
  refine VL.rnd (s31_7, (i4_2 + 1)) [0, 3, 4] (fun _ _ h => h) (go2 hS hK1) rfl
 replace hS := it_f h9 hS
 replace hS := up2 hS hK1
 refine Zx ?_
 refine Zq (Zr ?_)
 refine Zm ?_
 refine Za ?_
 refine Zl ?_
 cases hS
 exact VC.ret (fin1 (.inr rfl) rfl rfl out3_1 rfl rfl (by (try dsimp only); exact InM.out) (by (try dsimp only); exact EntO.out))
theorem rectoref3_At_ct (word_0 : Str) (at_1 : Int) (e_2 : Int) {r : Rectoref3WrongP} (hS : Sh.rectoref3_At word_0 at_1 e_2 = some r) :
 Ct Tryz.prog 70 [str word_0, i64 at_1, i64 e_2] Mo.tt (Ow.emp) (X := Rectoref3Wrong) (fun x => .agg (Dat.enc x).toArray) (fun x => r = x.pl) (fun x => x.m) (fun x => Ow.emp) := by
 refine Ct.of Tryz.func70 rfl (by kernel_rfl) Tryz.ntmps70 (by simp) fun c => ?_
 unfold Sh.rectoref3_At at hS
 refine Zq (Zr ?_)
 refine VL.alloc (cs := [.slice none 0 0, i64 0]) (by kernel_rfl) (by decide) fun b6_1 => ?_
 refine Zl ?_
 refine Zq (Zr ?_)
 refine Zm ?_
 refine Zm ?_
 refine VL.q (q_build (vs := [(0, str word_0), (1, i64 at_1)]) (cs := #[str word_0, i64 at_1]) rfl (by kernel_rfl)) (by decide) ?_
 refine VL.lit (α := Rectoref3Part) (xs := [.tmp 9]) (vs := [.agg #[str word_0, i64 at_1]]) [⟨word_0, at_1⟩] Tryz.underlying52 glit137 (by decide) rfl rfl rfl rfl (by decide) (fun _ _ _ _ => trivial) (by decide) (fun s10_2 hs10_2 => ?_) (by decide)
 replace hS := lt_to hs10_2 hS
 refine Zm ?_
 refine VL.q (q_build (vs := [(0, s10_2.val), (1, i64 e_2)]) (cs := #[s10_2.val, i64 e_2]) rfl (by kernel_rfl)) (by decide) ?_
 refine VL.store (vc := [s10_2.val, i64 e_2]) (cs' := [s10_2.val, i64 e_2]) rfl rfl rfl gsz54 rfl rfl (Nat.le_of_ble_eq_true rfl) rfl ?_
 refine Zl ?_
 cases hS
 exact VC.ret (finG (vs := [.agg #[s10_2.val, i64 e_2]]) (.inr rfl) rfl (RVs.cell gagg54 rfl rfl Rd.blk (RVs.nil)) ⟨s10_2, e_2⟩ rfl rfl (by (try dsimp only); exact InM.out) (fun _ _ => trivial))
theorem rectoref1_Parts_ct (p_0 : Str) {r : List Str} (hS : Sh.rectoref1_Parts p_0 = some r) :
 Ct Tryz.prog 194 [str p_0] Mo.tt (Ow.emp) (X := Sv Str) (fun x => x.val) (fun x => r = x.l) (fun x => Mo.tt) (fun x => Sv.own x 9) := by
 refine Ct.of Tryz.func194 rfl (by kernel_rfl) Tryz.ntmps194 (by simp) fun c => ?_
 unfold Sh.rectoref1_Parts at hS
 refine Zq (Zr ?_)
 refine Za ?_
 refine Zl ?_
 refine Zq (Zq (Zr ?_))
 refine Zm ?_
 refine Zs ?_
 refine Zl ?_
 refine VC.cond_dec rfl (fun h6 => ?_) (fun h6 => ?_)
 ·
  replace hS := it_t h6 hS
  refine Zq (Zr ?_)
  refine Za ?_
  refine Zl ?_
  refine VC.nilO (⟨none, 0, []⟩ : Sv Str) 9 ⟨rfl, rfl⟩ ?_
  cases hS
  exact VC.ret (fin1 (.inr rfl) rfl rfl ⟨none, 0, []⟩ rfl rfl (by (try dsimp only); exact InM.out) (by (try dsimp only); exact EntO.out))
 replace hS := it_f h6 hS
 refine Zk ?_
 refine Zq (Zr ?_)
 refine VL.litO (α := Str) (xs := [.const (str [])]) (vs := [str []]) [[]] Tryz.underlying82 glit9 (by decide) rfl rfl rfl rfl (by decide) (by decide) (fun s7_1 hs7_1 => ?_) (by decide)
 replace hS := lt_to hs7_1 hS
 refine Za ?_
 refine Zl ?_
 refine Zq (Zq (Zr ?_))
 refine Za ?_
 refine Zl ?_
 refine Zb ?_
 refine VC.iter (S := Sv Str × Int) (fun sg => (sg.1.l, sg.2)) (fun sg => [(0, str p_0), (3, sg.1.val), (4, i64 sg.2)]) (fun sg => Mo.tt) (fun sg => Ow.star (Sv.own sg.1 9) (Ow.emp)) (s7_1, 0) [0, 3, 4] hS rfl ?_
 clear hS
 rintro ⟨out3_3, i4_4⟩ m1 y1 hS hK1
 show VC _ _ _ _ _ [(0, str p_0), (3, out3_3.val), (4, i64 i4_4)] (Mo.and Mo.tt _) (Ow.star (Sv.own out3_3 9) (Ow.emp))
 refine Zq (Zq (Zr ?_))
 refine Zm ?_
 refine Zm ?_
 refine VL.q (q_slen Tryz.underlying9 rfl) (by decide) ?_
 refine VL.q (q_lss rfl rfl) (by decide) ?_
 refine Zl ?_
 refine VC.cond_dec rfl (fun h11 => ?_) (fun h11 => ?_)
 ·
  replace hS := it_t h11 hS
  refine Zk ?_
  refine VC.cutJ (S := Sv Str) (fun (out3_5 : Sv Str) => out3_5.l) (fun (out3_5 : Sv Str) => [(0, str p_0), (3, out3_5.val), (4, i64 i4_4)]) (fun (out3_5 : Sv Str) => Mo.tt) (fun (out3_5 : Sv Str) => Ow.star (Sv.own out3_5 9) (Ow.emp)) hS ?_ ?_
  ·
   clear hS
   intro k6 hS
   refine Zb (Zq (Zq (Zr ?_)))
   refine Zm ?_
   refine Zm ?_
   obtain ⟨z16_7, nz16_7, hz16_7, hS⟩ := at_s hS
   refine VL.q (q_sidx Tryz.underlying9 rfl rfl nz16_7 hz16_7) (by decide) ?_
   refine VL.q (q_eql rfl rfl) (by decide) ?_
   refine Zl ?_
   refine VC.keep [0, 3, 4, 17] rfl ?_
   refine VC.cond_dec rfl (fun h17 => ?_) (fun h17 => ?_)
   ·
    replace hS := it_t h17 hS
    refine Zq (Zr ?_)
    refine Zm ?_
    refine VL.lit (α := Str) (xs := [.const (str [])]) (vs := [str []]) [[]] Tryz.underlying82 glit9 (by decide) rfl rfl rfl rfl (by decide) (fun _ _ _ _ => trivial) (by decide) (fun s19_8 hs19_8 => ?_) (by decide)
    replace hS := lt_to hs19_8 hS
    obtain ⟨b20, hS⟩ := gd_s hS
    refine VL.app (s := out3_3) (r := s19_8) Tryz.underlying82 gapp9 (by decide) rfl Fo.out (ap1 b20) (ap2 b20 (by decide)) (by decide) (fun s20_10 hs20_10 => ?_)
    replace hS := lt_to hs20_10 hS
    refine Za ?_
    refine Zl ?_
    refine VC.exit_mt s20_10 [0, 3, 4] (fun _ _ h => h) hS rfl
   replace hS := it_f h17 hS
   refine Zk ?_
   refine VC.draw [(0, true), (1, true), (2, true), (3, true), (4, true), (5, true), (6, true), (7, true), (8, true), (9, true), (10, true), (11, true), (12, true), (13, true), (14, true), (15, true), (16, true), (17, false)] mixed (by kernel_rfl) (by kernel_rfl) (by kernel_rfl) ?_
   refine VD.q rfl (q_move rfl) (by decide) ?_
   refine VD.q rfl (q_move rfl) (by decide) ?_
   refine VD.q rfl (q_ln (s := out3_3) Tryz.underlying82 rfl) (by decide) ?_
   obtain ⟨b24, hS⟩ := gd_s hS
   refine VD.q rfl (q_sub rfl rfl b24) (by decide) ?_
   refine VD.q rfl (q_move rfl) (by decide) ?_
   refine VD.q rfl (q_move rfl) (by decide) ?_
   refine VD.q rfl (q_ln (s := out3_3) Tryz.underlying82 rfl) (by decide) ?_
   obtain ⟨b28, hS⟩ := gd_s hS
   refine VD.q rfl (q_sub rfl rfl b28) (by decide) ?_
   obtain ⟨z29_12, nz29_12, hz29_12, hS⟩ := at_s hS
   refine VD.q rfl (q_ixo (s := out3_3) Tryz.underlying82 gsz9 rfl rfl nz29_12 (lt_of_get nz29_12 hz29_12)) (by decide) ?_
   refine VD.q rfl (q_elo (s := out3_3) 9 gone9 rfl hz29_12 rfl) (by decide) ?_
   refine VD.q rfl (q_move rfl) (by decide) ?_
   refine VD.q rfl (q_move rfl) (by decide) ?_
   refine VD.q rfl (q_move rfl) (by decide) ?_
   obtain ⟨b34, hS⟩ := gd_s hS
   refine VD.q rfl (q_add rfl rfl b34) (by decide) ?_
   obtain ⟨b35, hS⟩ := gd_s hS
   obtain ⟨y35_13, ey35_13, hS⟩ := lt_s hS
   refine VD.q rfl (q_smidE Tryz.underlying9 rfl rfl rfl b35.1 b35.2.1 b35.2.2 ey35_13) (by decide) ?_
   obtain ⟨b36, hS⟩ := gd_s hS
   obtain ⟨y36_14, ey36_14, hS⟩ := lt_s hS
   refine VD.q rfl (q_catE rfl rfl b36 ey36_14) (by decide) ?_
   obtain ⟨z37_15, nz37_15, hz37_15, hS⟩ := at_s hS
   refine VD.q rfl (q_ixo (s := out3_3) Tryz.underlying82 gsz9 rfl rfl nz37_15 (lt_of_get nz37_15 hz37_15)) (by decide) ?_
   refine VD.one rfl ?_
   refine VL.storeE (s := out3_3) (T := 9) (j := 0) (vc := [str y36_14]) (y36_14 : Str) (by decide) rfl rfl hz37_15 rfl gsz9 rfl rfl (Nat.le_of_ble_eq_true rfl) rfl (fun w16 hw16 haw16 hcw16 hvw16 hbw16 how16 => ?_)
   rw [← hvw16]
   replace hS := lt_to hw16 hS
   refine VL.back (D' := []) (by kernel_rfl) (Pend.nil) ?_
   refine VD.mt w16 [0, 3, 4] (fun _ _ h => h) hS rfl
  clear hS
  rintro out3_5 hS
  show VC _ _ _ _ _ [(0, str p_0), (3, out3_5.val), (4, i64 i4_4)] (Mo.and Mo.tt _) (Ow.star (Sv.own out3_5 9) (Ow.emp))
  refine Zr ?_
  refine Zm ?_
  obtain ⟨b13, hS⟩ := gd_s hS
  refine VL.q (q_add rfl rfl b13) (by decide) ?_
  refine Za ?_
  refine VL.rnd (out3_5, (i4_4 + 1)) [0, 3, 4] (fun _ _ h => h) (go2 hS hK1) rfl
 replace hS := it_f h11 hS
 replace hS := up2 hS hK1
 refine Zx ?_
 refine Zq (Zr ?_)
 refine Zm ?_
 refine Za ?_
 refine Zl ?_
 cases hS
 exact VC.ret (fin1 (.inr rfl) rfl rfl out3_3 rfl rfl (by (try dsimp only); exact InM.out) (by (try dsimp only); exact EntO.out))
theorem rectoref1_good_ct (c_0 : Int) {r : Bool} (hS : Sh.rectoref1_good c_0 = some r) :
 Ct Tryz.prog 195 [.int .u8 c_0] Mo.tt (Ow.emp) (X := Unit) (fun _ => .bool r) (fun _ => True) (fun _ => Mo.tt) (fun _ => Ow.emp) := by
 refine Ct.of Tryz.func195 rfl (by kernel_rfl) Tryz.ntmps195 (by simp) fun c => ?_
 unfold Sh.rectoref1_good at hS
 refine Zq (Zr ?_)
 refine Za ?_
 refine Zl ?_
 refine Zq (Zr ?_)
 refine Zm ?_
 refine VL.q (q_geq rfl rfl) (by decide) ?_
 refine Zm ?_
 refine VL.split_dec 5 rfl (fun h5 => ?_) (fun h5 => ?_)
 ·
  replace hS := it_t h5 hS
  refine Zg ?_
  refine VL.gy rfl rfl (q_leq rfl rfl) (by decide) ?_
  refine Zt ?_
  refine Zm ?_
  refine VL.split_dec 9 rfl (fun h9 => ?_) (fun h9 => ?_)
  ·
   replace hS := it_t h9 hS
   refine Zn ?_
   refine Zn ?_
   refine Zn ?_
   refine VL.gu rfl rfl (by decide) ?_
   refine VL.gu rfl rfl (by decide) ?_
   refine Zn ?_
   refine Zt ?_
   refine Zm ?_
   refine Zn ?_
   refine Zn ?_
   refine Zt ?_
   refine Zm ?_
   refine Zn ?_
   refine Zn ?_
   refine Zt ?_
   refine Zm ?_
   refine Zn ?_
   refine Zn ?_
   refine Zt ?_
   refine Za ?_
   refine Zl ?_
   refine VC.keep [2] rfl ?_
   cases hS
   exact Ze
  replace hS := it_f h9 hS
  refine Zg ?_
  refine VL.gy rfl rfl (q_geq rfl rfl) (by decide) ?_
  refine Zg ?_
  refine VL.split_dec 12 rfl (fun h12 => ?_) (fun h12 => ?_)
  ·
   replace hS := it_t h12 hS
   refine Zg ?_
   refine VL.gy rfl rfl (q_leq rfl rfl) (by decide) ?_
   refine VL.gy rfl rfl (q_pick_t rfl rfl) (by decide) ?_
   refine Zf ?_
   refine Zm ?_
   refine VL.split_dec 17 rfl (fun h17 => ?_) (fun h17 => ?_)
   ·
    replace hS := it_t h17 hS
    refine Zn ?_
    refine Zn ?_
    refine Zt ?_
    refine Zm ?_
    refine Zn ?_
    refine Zn ?_
    refine Zt ?_
    refine Zm ?_
    refine Zn ?_
    refine Zn ?_
    refine Zt ?_
    refine Za ?_
    refine Zl ?_
    refine VC.keep [2] rfl ?_
    cases hS
    exact Ze
   replace hS := it_f h17 hS
   refine Zg ?_
   refine VL.gy rfl rfl (q_eql rfl rfl) (by decide) ?_
   refine Zf ?_
   refine Zm ?_
   refine VL.split_dec 21 rfl (fun h21 => ?_) (fun h21 => ?_)
   ·
    replace hS := it_t h21 hS
    refine Zn ?_
    refine Zn ?_
    refine Zt ?_
    refine Zm ?_
    refine Zn ?_
    refine Zn ?_
    refine Zt ?_
    refine Za ?_
    refine Zl ?_
    refine VC.keep [2] rfl ?_
    cases hS
    exact Ze
   replace hS := it_f h21 hS
   refine Zg ?_
   refine VL.gy rfl rfl (q_eql rfl rfl) (by decide) ?_
   refine Zf ?_
   refine Zm ?_
   refine VL.split_dec 25 rfl (fun h25 => ?_) (fun h25 => ?_)
   ·
    replace hS := it_t h25 hS
    refine Zn ?_
    refine Zn ?_
    refine Zt ?_
    refine Za ?_
    refine Zl ?_
    refine VC.keep [2] rfl ?_
    cases hS
    exact Ze
   replace hS := it_f h25 hS
   refine Zg ?_
   refine VL.gy rfl rfl (q_eql rfl rfl) (by decide) ?_
   refine Zf ?_
   refine Za ?_
   refine Zl ?_
   refine VC.keep [2] rfl ?_
   cases hS
   exact Ze
  replace hS := it_f h12 hS
  refine Zn ?_
  refine Zn ?_
  refine VL.gy rfl rfl (q_pick_f rfl rfl) (by decide) ?_
  refine Zf ?_
  refine Zm ?_
  refine Zg ?_
  refine VL.gy rfl rfl (q_eql rfl rfl) (by decide) ?_
  refine Zf ?_
  refine Zm ?_
  refine VL.split_dec 21 rfl (fun h21 => ?_) (fun h21 => ?_)
  ·
   replace hS := it_t h21 hS
   refine Zn ?_
   refine Zn ?_
   refine Zt ?_
   refine Zm ?_
   refine Zn ?_
   refine Zn ?_
   refine Zt ?_
   refine Za ?_
   refine Zl ?_
   refine VC.keep [2] rfl ?_
   cases hS
   exact Ze
  replace hS := it_f h21 hS
  refine Zg ?_
  refine VL.gy rfl rfl (q_eql rfl rfl) (by decide) ?_
  refine Zf ?_
  refine Zm ?_
  refine VL.split_dec 25 rfl (fun h25 => ?_) (fun h25 => ?_)
  ·
   replace hS := it_t h25 hS
   refine Zn ?_
   refine Zn ?_
   refine Zt ?_
   refine Za ?_
   refine Zl ?_
   refine VC.keep [2] rfl ?_
   cases hS
   exact Ze
  replace hS := it_f h25 hS
  refine Zg ?_
  refine VL.gy rfl rfl (q_eql rfl rfl) (by decide) ?_
  refine Zf ?_
  refine Za ?_
  refine Zl ?_
  refine VC.keep [2] rfl ?_
  cases hS
  exact Ze
 replace hS := it_f h5 hS
 refine Zn ?_
 refine Zn ?_
 refine Zf ?_
 refine Zm ?_
 refine Zg ?_
 refine VL.gy rfl rfl (q_geq rfl rfl) (by decide) ?_
 refine Zg ?_
 refine VL.split_dec 12 rfl (fun h12 => ?_) (fun h12 => ?_)
 ·
  replace hS := it_t h12 hS
  refine Zg ?_
  refine VL.gy rfl rfl (q_leq rfl rfl) (by decide) ?_
  refine VL.gy rfl rfl (q_pick_t rfl rfl) (by decide) ?_
  refine Zf ?_
  refine Zm ?_
  refine VL.split_dec 17 rfl (fun h17 => ?_) (fun h17 => ?_)
  ·
   replace hS := it_t h17 hS
   refine Zn ?_
   refine Zn ?_
   refine Zt ?_
   refine Zm ?_
   refine Zn ?_
   refine Zn ?_
   refine Zt ?_
   refine Zm ?_
   refine Zn ?_
   refine Zn ?_
   refine Zt ?_
   refine Za ?_
   refine Zl ?_
   refine VC.keep [2] rfl ?_
   cases hS
   exact Ze
  replace hS := it_f h17 hS
  refine Zg ?_
  refine VL.gy rfl rfl (q_eql rfl rfl) (by decide) ?_
  refine Zf ?_
  refine Zm ?_
  refine VL.split_dec 21 rfl (fun h21 => ?_) (fun h21 => ?_)
  ·
   replace hS := it_t h21 hS
   refine Zn ?_
   refine Zn ?_
   refine Zt ?_
   refine Zm ?_
   refine Zn ?_
   refine Zn ?_
   refine Zt ?_
   refine Za ?_
   refine Zl ?_
   refine VC.keep [2] rfl ?_
   cases hS
   exact Ze
  replace hS := it_f h21 hS
  refine Zg ?_
  refine VL.gy rfl rfl (q_eql rfl rfl) (by decide) ?_
  refine Zf ?_
  refine Zm ?_
  refine VL.split_dec 25 rfl (fun h25 => ?_) (fun h25 => ?_)
  ·
   replace hS := it_t h25 hS
   refine Zn ?_
   refine Zn ?_
   refine Zt ?_
   refine Za ?_
   refine Zl ?_
   refine VC.keep [2] rfl ?_
   cases hS
   exact Ze
  replace hS := it_f h25 hS
  refine Zg ?_
  refine VL.gy rfl rfl (q_eql rfl rfl) (by decide) ?_
  refine Zf ?_
  refine Za ?_
  refine Zl ?_
  refine VC.keep [2] rfl ?_
  cases hS
  exact Ze
 replace hS := it_f h12 hS
 refine Zn ?_
 refine Zn ?_
 refine VL.gy rfl rfl (q_pick_f rfl rfl) (by decide) ?_
 refine Zf ?_
 refine Zm ?_
 refine Zg ?_
 refine VL.gy rfl rfl (q_eql rfl rfl) (by decide) ?_
 refine Zf ?_
 refine Zm ?_
 refine VL.split_dec 21 rfl (fun h21 => ?_) (fun h21 => ?_)
 ·
  replace hS := it_t h21 hS
  refine Zn ?_
  refine Zn ?_
  refine Zt ?_
  refine Zm ?_
  refine Zn ?_
  refine Zn ?_
  refine Zt ?_
  refine Za ?_
  refine Zl ?_
  refine VC.keep [2] rfl ?_
  cases hS
  exact Ze
 replace hS := it_f h21 hS
 refine Zg ?_
 refine VL.gy rfl rfl (q_eql rfl rfl) (by decide) ?_
 refine Zf ?_
 refine Zm ?_
 refine VL.split_dec 25 rfl (fun h25 => ?_) (fun h25 => ?_)
 ·
  replace hS := it_t h25 hS
  refine Zn ?_
  refine Zn ?_
  refine Zt ?_
  refine Za ?_
  refine Zl ?_
  refine VC.keep [2] rfl ?_
  cases hS
  exact Ze
 replace hS := it_f h25 hS
 refine Zg ?_
 refine VL.gy rfl rfl (q_eql rfl rfl) (by decide) ?_
 refine Zf ?_
 refine Za ?_
 refine Zl ?_
 refine VC.keep [2] rfl ?_
 cases hS
 exact Ze
theorem rectoref1_Check_ct (p_0 : Str) {r : Int} (hS : Sh.rectoref1_Check p_0 = some r) :
 Ct Tryz.prog 141 [str p_0] Mo.tt (Ow.emp) (X := Unit) (fun _ => i64 r) (fun _ => True) (fun _ => Mo.tt) (fun _ => Ow.emp) := by
 refine Ct.of Tryz.func141 rfl (by kernel_rfl) Tryz.ntmps141 (by simp) fun c => ?_
 unfold Sh.rectoref1_Check at hS
 refine Zq (Zr ?_)
 refine Za ?_
 refine Zl ?_
 refine Zq (Zq (Zr ?_))
 refine Zm ?_
 refine VL.q (q_slen Tryz.underlying9 rfl) (by decide) ?_
 refine VL.q (q_gtr rfl rfl) (by decide) ?_
 refine Zl ?_
 refine VC.cond_dec rfl (fun h8 => ?_) (fun h8 => ?_)
 ·
  replace hS := it_t h8 hS
  refine Zq (Zr ?_)
  refine Za ?_
  refine Zl ?_
  cases hS
  exact Ze
 replace hS := it_f h8 hS
 refine Zk ?_
 refine Zq (Zr ?_)
 refine Zm ?_
 obtain ⟨y10_1, ey10_1, hS⟩ := bd_s hS
 refine VL.callO (rectoref1_Parts_ct p_0 ey10_1) rfl (by decide) ?_
 rintro q10_1_0 rfl
 try dsimp only
 refine Za ?_
 refine Zl ?_
 refine Zq (Zq (Zr ?_))
 refine Zm ?_
 refine VL.q (q_ln (s := q10_1_0) Tryz.underlying82 rfl) (by decide) ?_
 refine VL.q (q_eql rfl rfl) (by decide) ?_
 refine Zl ?_
 refine VC.keep [3, 13] rfl ?_
 refine VC.cond_dec rfl (fun h13 => ?_) (fun h13 => ?_)
 ·
  replace hS := it_t h13 hS
  refine Zq (Zr ?_)
  refine Za ?_
  refine Zl ?_
  cases hS
  exact Ze
 replace hS := it_f h13 hS
 refine Zk ?_
 refine Zq (Zq (Zr ?_))
 refine Za ?_
 refine Zl ?_
 refine Zb ?_
 refine VC.iter (S := Int) (fun (i4_2 : Int) => i4_2) (fun (i4_2 : Int) => [(3, q10_1_0.val), (4, i64 i4_2)]) (fun (i4_2 : Int) => Mo.tt) (fun (i4_2 : Int) => Ow.star (Sv.own q10_1_0 9) (Ow.emp)) 0 [3, 4] hS rfl ?_
 clear hS
 rintro i4_2 m1 y1 hS hK1
 show VC _ _ _ _ _ [(3, q10_1_0.val), (4, i64 i4_2)] (Mo.and Mo.tt _) (Ow.star (Sv.own q10_1_0 9) (Ow.emp))
 refine Zq (Zq (Zr ?_))
 refine Zm ?_
 refine Zm ?_
 refine VL.q (q_ln (s := q10_1_0) Tryz.underlying82 rfl) (by decide) ?_
 refine VL.q (q_lss rfl rfl) (by decide) ?_
 refine Zl ?_
 refine VC.cond_dec rfl (fun h17 => ?_) (fun h17 => ?_)
 ·
  replace hS := it_t h17 hS
  refine Zk ?_
  refine VC.cutJ (S := Unit) (fun (_ : Unit) => ()) (fun (_ : Unit) => [(3, q10_1_0.val), (4, i64 i4_2)]) (fun (_ : Unit) => Mo.tt) (fun (_ : Unit) => Ow.star (Sv.own q10_1_0 9) (Ow.emp)) hS ?_ ?_
  ·
   clear hS
   intro k3 hS
   refine Zb (Zq ?_)
   refine VC.cutJ (S := Bool) (fun (x38_4 : Bool) => x38_4) (fun (x38_4 : Bool) => [(3, q10_1_0.val), (4, i64 i4_2), (38, .bool x38_4)]) (fun (x38_4 : Bool) => Mo.tt) (fun (x38_4 : Bool) => Ow.star (Sv.own q10_1_0 9) (Ow.emp)) hS ?_ ?_
   ·
    clear hS
    intro k5 hS
    refine Zr ?_
    refine Zm ?_
    refine Zm ?_
    obtain ⟨z22_6, nz22_6, hz22_6, hS⟩ := at_s hS
    refine VL.q (q_ixo (s := q10_1_0) Tryz.underlying82 gsz9 rfl rfl nz22_6 (lt_of_get nz22_6 hz22_6)) (by decide) ?_
    refine VL.q (q_elo (s := q10_1_0) 9 gone9 rfl hz22_6 rfl) (by decide) ?_
    refine Zs ?_
    refine Zm ?_
    refine VL.split_dec 25 rfl (fun h25 => ?_) (fun h25 => ?_)
    ·
     replace hS := it_t h25 hS
     refine Zn ?_
     refine Zn ?_
     refine Zn ?_
     refine Zn ?_
     refine Zn ?_
     refine Zt ?_
     refine Zm ?_
     refine Zn ?_
     refine Zn ?_
     refine Zn ?_
     refine Zn ?_
     refine Zn ?_
     refine Zt ?_
     refine VL.mt true [3, 4, 38] (fun _ _ h => h) hS rfl
    replace hS := it_f h25 hS
    refine Zg ?_
    refine Zg ?_
    obtain ⟨z28_7, nz28_7, hz28_7, hS⟩ := at_s hS
    refine VL.gy rfl rfl (q_ixo (s := q10_1_0) Tryz.underlying82 gsz9 rfl rfl nz28_7 (lt_of_get nz28_7 hz28_7)) (by decide) ?_
    refine VL.gy rfl rfl (q_elo (s := q10_1_0) 9 gone9 rfl hz28_7 rfl) (by decide) ?_
    refine VL.gy rfl rfl (q_seq rfl rfl) (by decide) ?_
    refine Zf ?_
    refine Zm ?_
    refine VL.split_dec 32 rfl (fun h32 => ?_) (fun h32 => ?_)
    ·
     replace hS := it_t h32 hS
     refine Zn ?_
     refine Zn ?_
     refine Zn ?_
     refine Zn ?_
     refine Zn ?_
     refine Zt ?_
     refine VL.mt true [3, 4, 38] (fun _ _ h => h) hS rfl
    replace hS := it_f h32 hS
    refine Zg ?_
    refine Zg ?_
    obtain ⟨z35_8, nz35_8, hz35_8, hS⟩ := at_s hS
    refine VL.gy rfl rfl (q_ixo (s := q10_1_0) Tryz.underlying82 gsz9 rfl rfl nz35_8 (lt_of_get nz35_8 hz35_8)) (by decide) ?_
    refine VL.gy rfl rfl (q_elo (s := q10_1_0) 9 gone9 rfl hz35_8 rfl) (by decide) ?_
    refine VL.gy rfl rfl (q_seq rfl rfl) (by decide) ?_
    refine Zf ?_
    refine VL.mt (decide (z35_8 = [46, 46])) [3, 4, 38] (fun _ _ h => h) hS rfl
   clear hS
   rintro x38_4 hS
   show VC _ _ _ _ _ [(3, q10_1_0.val), (4, i64 i4_2), (38, .bool x38_4)] (Mo.and Mo.tt _) (Ow.star (Sv.own q10_1_0 9) (Ow.emp))
   refine VC.cond rfl (fun h38 => ?_) (fun h38 => ?_)
   ·
    replace hS := it_t h38 hS
    refine Zq (Zr ?_)
    refine Za ?_
    refine Zl ?_
    replace hS := up2 hS hK1
    cases hS
    exact Ze
   replace hS := it_b h38 hS
   refine Zk ?_
   refine Zq (Zr ?_)
   refine Za ?_
   refine Zl ?_
   refine Zb ?_
   refine VC.iter (S := Int) (fun (k5_9 : Int) => k5_9) (fun (k5_9 : Int) => [(3, q10_1_0.val), (4, i64 i4_2), (5, i64 k5_9)]) (fun (k5_9 : Int) => Mo.tt) (fun (k5_9 : Int) => Ow.star (Sv.own q10_1_0 9) (Ow.emp)) 0 [3, 4, 5] hS rfl ?_
   clear hS
   rintro k5_9 m2 y2 hS hK2
   show VC _ _ _ _ _ [(3, q10_1_0.val), (4, i64 i4_2), (5, i64 k5_9)] (Mo.and Mo.tt _) (Ow.star (Sv.own q10_1_0 9) (Ow.emp))
   refine Zq (Zq (Zr ?_))
   refine Zm ?_
   refine Zm ?_
   refine Zm ?_
   obtain ⟨z42_10, nz42_10, hz42_10, hS⟩ := at_s hS
   refine VL.q (q_ixo (s := q10_1_0) Tryz.underlying82 gsz9 rfl rfl nz42_10 (lt_of_get nz42_10 hz42_10)) (by decide) ?_
   refine VL.q (q_elo (s := q10_1_0) 9 gone9 rfl hz42_10 rfl) (by decide) ?_
   refine VL.q (q_slen Tryz.underlying9 rfl) (by decide) ?_
   refine VL.q (q_lss rfl rfl) (by decide) ?_
   refine Zl ?_
   refine VC.cond_dec rfl (fun h45 => ?_) (fun h45 => ?_)
   ·
    replace hS := it_t h45 hS
    refine Zk ?_
    refine Zq (Zb (Zq (Zr ?_)))
    refine Zm ?_
    refine Zm ?_
    obtain ⟨z50_11, nz50_11, hz50_11, hS⟩ := at_s hS
    refine VL.q (q_ixo (s := q10_1_0) Tryz.underlying82 gsz9 rfl rfl nz50_11 (lt_of_get nz50_11 hz50_11)) (by decide) ?_
    refine VL.q (q_elo (s := q10_1_0) 9 gone9 rfl hz50_11 rfl) (by decide) ?_
    refine Zm ?_
    obtain ⟨z53_12, nz53_12, hz53_12, hS⟩ := at_s hS
    refine VL.q (q_sidx Tryz.underlying9 rfl rfl nz53_12 hz53_12) (by decide) ?_
    obtain ⟨y54_13, ey54_13, hS⟩ := bd_s hS
    refine VL.q (q_call (rectoref1_good_ct (z53_12.toNat : Int) ey54_13) rfl (fun _ _ => rfl)) (by decide) ?_
    refine VL.q (q_not rfl) (by decide) ?_
    refine Zl ?_
    refine VC.keep [3, 4, 5, 55] rfl ?_
    refine VC.cond rfl (fun h55 => ?_) (fun h55 => ?_)
    ·
     replace hS := it_t h55 hS
     refine Zq (Zr ?_)
     refine Za ?_
     refine Zl ?_
     replace hS := up2 hS hK2
     replace hS := up2 hS hK1
     cases hS
     exact Ze
    replace hS := it_b h55 hS
    refine Zk ?_
    refine Zr ?_
    refine Zm ?_
    obtain ⟨b47, hS⟩ := gd_s hS
    refine VL.q (q_add rfl rfl b47) (by decide) ?_
    refine Za ?_
    refine VL.rnd (k5_9 + 1) [3, 4, 5] (fun _ _ h => h) (go2 hS hK2) rfl
   replace hS := it_f h45 hS
   replace hS := up2 hS hK2
   refine VC.exit_mt () [3, 4] (fun _ _ h => h) hS rfl
  clear hS
  rintro _ hS
  show VC _ _ _ _ _ [(3, q10_1_0.val), (4, i64 i4_2)] (Mo.and Mo.tt _) (Ow.star (Sv.own q10_1_0 9) (Ow.emp))
  refine Zr ?_
  refine Zm ?_
  obtain ⟨b19, hS⟩ := gd_s hS
  refine VL.q (q_add rfl rfl b19) (by decide) ?_
  refine Za ?_
  refine VL.rnd (i4_2 + 1) [3, 4] (fun _ _ h => h) (go2 hS hK1) rfl
 replace hS := it_f h17 hS
 replace hS := up2 hS hK1
 refine Zx ?_
 refine Zq (Zr ?_)
 refine Za ?_
 refine Zl ?_
 cases hS
 exact Ze
theorem rectoref14_Mode_ct (m_0 : Int) {r : Bool} (hS : Sh.rectoref14_Mode m_0 = some r) :
 Ct Tryz.prog 142 [i64 m_0] Mo.tt (Ow.emp) (X := Unit) (fun _ => .bool r) (fun _ => True) (fun _ => Mo.tt) (fun _ => Ow.emp) := by
 refine Ct.of Tryz.func142 rfl (by kernel_rfl) Tryz.ntmps142 (by simp) fun c => ?_
 unfold Sh.rectoref14_Mode at hS
 refine Zq (Zr ?_)
 refine Za ?_
 refine Zl ?_
 refine Zq (Zr ?_)
 refine Zm ?_
 refine VL.q (q_eql rfl rfl) (by decide) ?_
 refine Zm ?_
 refine VL.split_dec 5 rfl (fun h5 => ?_) (fun h5 => ?_)
 ·
  replace hS := it_t h5 hS
  refine Zn ?_
  refine Zn ?_
  refine Zt ?_
  refine Za ?_
  refine Zl ?_
  cases hS
  exact Ze
 replace hS := it_f h5 hS
 refine Zg ?_
 refine VL.gy rfl rfl (q_eql rfl rfl) (by decide) ?_
 refine Zf ?_
 refine Za ?_
 refine Zl ?_
 cases hS
 exact Ze
theorem rectoref1_Under_ct (p_0 : Str) (dir_1 : Str) {r : Bool} (hS : Sh.rectoref1_Under p_0 dir_1 = some r) :
 Ct Tryz.prog 143 [str p_0, str dir_1] Mo.tt (Ow.emp) (X := Unit) (fun _ => .bool r) (fun _ => True) (fun _ => Mo.tt) (fun _ => Ow.emp) := by
 refine Ct.of Tryz.func143 rfl (by kernel_rfl) Tryz.ntmps143 (by simp) fun c => ?_
 unfold Sh.rectoref1_Under at hS
 refine Zq (Zr ?_)
 refine Za ?_
 refine Zl ?_
 refine Zq (Zq (Zr ?_))
 refine Zm ?_
 refine Zs ?_
 refine Zl ?_
 refine VC.cond_dec rfl (fun h6 => ?_) (fun h6 => ?_)
 ·
  replace hS := it_t h6 hS
  refine Zq (Zr ?_)
  refine Zm ?_
  refine VL.q (q_sne rfl rfl) (by decide) ?_
  refine Za ?_
  refine Zl ?_
  cases hS
  exact Ze
 replace hS := it_f h6 hS
 refine Zk ?_
 refine Zq (Zr ?_)
 refine Zm ?_
 refine VL.q (q_slen Tryz.underlying9 rfl) (by decide) ?_
 refine Zm ?_
 refine VL.q (q_slen Tryz.underlying9 rfl) (by decide) ?_
 obtain ⟨b13, hS⟩ := gd_s hS
 refine VL.q (q_add rfl rfl b13) (by decide) ?_
 refine VL.q (q_gtr rfl rfl) (by decide) ?_
 refine Zm ?_
 refine VL.split_dec 15 rfl (fun h15 => ?_) (fun h15 => ?_)
 ·
  replace hS := it_t h15 hS
  refine Zg ?_
  refine Zg ?_
  refine VL.gy rfl rfl (q_slen Tryz.underlying9 rfl) (by decide) ?_
  obtain ⟨b19, hS⟩ := gd_s hS
  obtain ⟨y19_1, ey19_1, hS⟩ := lt_s hS
  refine VL.gy rfl rfl (q_stoE Tryz.underlying9 rfl rfl b19.1 b19.2 ey19_1) (by decide) ?_
  refine Zg ?_
  refine VL.gy rfl rfl (q_seq rfl rfl) (by decide) ?_
  refine Zt ?_
  refine Zm ?_
  refine VL.split_dec 23 rfl (fun h23 => ?_) (fun h23 => ?_)
  ·
   replace hS := it_t h23 hS
   refine Zg ?_
   refine Zg ?_
   refine VL.gy rfl rfl (q_slen Tryz.underlying9 rfl) (by decide) ?_
   obtain ⟨z27_2, nz27_2, hz27_2, hS⟩ := at_s hS
   refine VL.gy rfl rfl (q_sidx Tryz.underlying9 rfl rfl nz27_2 hz27_2) (by decide) ?_
   refine VL.gy rfl rfl (q_eql rfl rfl) (by decide) ?_
   refine Zt ?_
   refine Za ?_
   refine Zl ?_
   refine VC.keep [4] rfl ?_
   cases hS
   exact Ze
  replace hS := it_f h23 hS
  refine Zn ?_
  refine Zn ?_
  refine Zn ?_
  refine Zn ?_
  refine Zn ?_
  refine Zf ?_
  refine Za ?_
  refine Zl ?_
  refine VC.keep [4] rfl ?_
  cases hS
  exact Ze
 replace hS := it_f h15 hS
 refine Zn ?_
 refine Zn ?_
 refine Zn ?_
 refine Zn ?_
 refine Zn ?_
 refine Zn ?_
 refine Zf ?_
 refine Zm ?_
 refine Zn ?_
 refine Zn ?_
 refine Zn ?_
 refine Zn ?_
 refine Zn ?_
 refine Zf ?_
 refine Za ?_
 refine Zl ?_
 refine VC.keep [4] rfl ?_
 cases hS
 exact Ze
theorem rectoref1_Clash_ct (a_0 : Str) (b_1 : Str) {r : Bool} (hS : Sh.rectoref1_Clash a_0 b_1 = some r) :
 Ct Tryz.prog 72 [str a_0, str b_1] Mo.tt (Ow.emp) (X := Unit) (fun _ => .bool r) (fun _ => True) (fun _ => Mo.tt) (fun _ => Ow.emp) := by
 refine Ct.of Tryz.func72 rfl (by kernel_rfl) Tryz.ntmps72 (by simp) fun c => ?_
 unfold Sh.rectoref1_Clash at hS
 refine Zq (Zr ?_)
 refine Za ?_
 refine Zl ?_
 refine Zq (Zr ?_)
 refine Zm ?_
 refine VL.q (q_sne rfl rfl) (by decide) ?_
 refine Zm ?_
 refine VL.split_ndec 7 rfl (fun h7 => ?_) (fun h7 => ?_)
 ·
  replace hS := it_f h7 hS
  refine Zg ?_
  refine VL.gy rfl rfl (q_sne rfl rfl) (by decide) ?_
  refine Zt ?_
  refine Zm ?_
  refine VL.split_ndec 11 rfl (fun h11 => ?_) (fun h11 => ?_)
  ·
   replace hS := it_f h11 hS
   refine Zg ?_
   refine Zg ?_
   obtain ⟨y14_1, ey14_1, hS⟩ := bd_s hS
   refine VL.gy rfl rfl (q_call (rectoref1_Under_ct a_0 b_1 ey14_1) rfl (fun _ _ => rfl)) (by decide) ?_
   refine Zg ?_
   refine VL.split 15 rfl (fun h15 => ?_) (fun h15 => ?_)
   ·
    replace hS := it_t h15 hS
    refine Zn ?_
    refine Zn ?_
    refine Zn ?_
    refine VL.gy rfl rfl (q_pick_t rfl rfl) (by decide) ?_
    refine Zt ?_
    refine Za ?_
    refine Zl ?_
    refine VC.keep [4] rfl ?_
    cases hS
    exact Ze
   replace hS := it_b h15 hS
   refine Zg ?_
   refine Zg ?_
   obtain ⟨y18_2, ey18_2, hS⟩ := bd_s hS
   refine VL.gy rfl rfl (q_call (rectoref1_Under_ct b_1 a_0 ey18_2) rfl (fun _ _ => rfl)) (by decide) ?_
   refine VL.gy rfl rfl (q_pick_f rfl rfl) (by decide) ?_
   refine Zt ?_
   refine Za ?_
   refine Zl ?_
   refine VC.keep [4] rfl ?_
   cases hS
   exact Ze
  replace hS := it_t h11 hS
  refine Zn ?_
  refine Zn ?_
  refine Zn ?_
  refine Zn ?_
  refine VL.gu rfl rfl (by decide) ?_
  refine VL.gu rfl rfl (by decide) ?_
  refine VL.gu rfl rfl (by decide) ?_
  refine Zn ?_
  refine Zf ?_
  refine Za ?_
  refine Zl ?_
  refine VC.keep [4] rfl ?_
  cases hS
  exact Ze
 replace hS := it_t h7 hS
 refine Zn ?_
 refine Zn ?_
 refine Zf ?_
 refine Zm ?_
 refine Zn ?_
 refine Zn ?_
 refine Zn ?_
 refine Zn ?_
 refine VL.gu rfl rfl (by decide) ?_
 refine VL.gu rfl rfl (by decide) ?_
 refine VL.gu rfl rfl (by decide) ?_
 refine Zn ?_
 refine Zf ?_
 refine Za ?_
 refine Zl ?_
 refine VC.keep [4] rfl ?_
 cases hS
 exact Ze
end Go.Proofs.YtleokmhhloamaaaGreatDoor
end

section
set_option linter.unusedVariables false
namespace Go.Proofs.YtleokmhhloamaaaGreatDoor
set_option maxHeartbeats 4000000
set_option maxRecDepth 100000
open Go.RowKit Go.V
open Go.S hiding Str
theorem rectoref14_entry_ct (l_0 : Sv Rectoref14Entry) (i_1 : Int) {r : Int} (hS : Sh.rectoref14_entry l_0.l i_1 = some r) :
 Ct Tryz.prog 85 [l_0.val, i64 i_1] l_0.ok (Ow.emp) (X := Unit) (fun _ => i64 r) (fun _ => True) (fun _ => Mo.tt) (fun _ => Ow.emp) := by
 refine Ct.of Tryz.func85 rfl (by kernel_rfl) Tryz.ntmps85 (by simp) fun c => ?_
 unfold Sh.rectoref14_entry at hS
 refine Zq (Zr ?_)
 refine Za ?_
 refine Zl ?_
 refine Zq (Zr ?_)
 refine Zm ?_
 refine Zm ?_
 obtain ⟨z11_1, nz11_1, hz11_1, hS⟩ := at_s hS
 refine VL.q (q_ixm (s := l_0) Tryz.underlying68 gsz152 rfl rfl nz11_1 (lt_of_get nz11_1 hz11_1)) (by decide) ?_
 refine VL.q (q_els (s := l_0) gagg152 rfl rfl hz11_1) (by decide) ?_
 refine VL.alloc (cs := [str [], i64 0, i64 0, str [], i64 0, i64 0]) (by kernel_rfl) (by decide) fun b5_2 => ?_
 refine VL.store (vc := [str z11_1.path, i64 z11_1.stage, i64 z11_1.mode, str z11_1.data, i64 z11_1.time, i64 z11_1.size]) (cs' := [str z11_1.path, i64 z11_1.stage, i64 z11_1.mode, str z11_1.data, i64 z11_1.time, i64 z11_1.size]) rfl rfl rfl gsz152 rfl rfl (Nat.le_of_ble_eq_true rfl) rfl ?_
 refine Zl ?_
 refine Zq (Zr ?_)
 refine VL.q (q_field gfa152_0 rfl) (by decide) ?_
 refine VL.q (q_fe gone9 rfl rfl) (by decide) ?_
 obtain ⟨y15_3, ey15_3, hS⟩ := bd_s hS
 refine VL.q (q_call (rectoref1_Check_ct z11_1.path ey15_3) rfl (fun _ _ => rfl)) (by decide) ?_
 refine Za ?_
 refine Zl ?_
 refine VC.keep [0, 1, 5, 6] rfl ?_
 refine Zq (Zb (Zq (Zr ?_)))
 refine Zm ?_
 refine VL.q (q_neq rfl rfl) (by decide) ?_
 refine Za ?_
 refine Zl ?_
 refine VC.cond_ndec rfl (fun h16 => ?_) (fun h16 => ?_)
 ·
  replace hS := it_f h16 hS
  refine Zq (Zr ?_)
  refine Zm ?_
  refine Za ?_
  refine Zl ?_
  cases hS
  exact Ze
 replace hS := it_t h16 hS
 refine VC.cutJ (S := Bool) (fun (x20_4 : Bool) => x20_4) (fun (x20_4 : Bool) => [(0, l_0.val), (1, i64 i_1), (5, ptr b5_2 0), (20, .bool x20_4)]) (fun (x20_4 : Bool) => Mo.tt) (fun (x20_4 : Bool) => Ow.star (Blk b5_2 [str z11_1.path, i64 z11_1.stage, i64 z11_1.mode, str z11_1.data, i64 z11_1.time, i64 z11_1.size] 152) (Ow.emp)) hS ?_ ?_
 ·
  clear hS
  intro k5 hS
  refine Zr ?_
  refine VL.q (q_field gfa152_1 rfl) (by decide) ?_
  refine VL.q (q_fe gone3 rfl rfl) (by decide) ?_
  refine VL.q (q_lss rfl rfl) (by decide) ?_
  refine Zm ?_
  refine VL.split_dec 24 rfl (fun h24 => ?_) (fun h24 => ?_)
  ·
   replace hS := it_t h24 hS
   refine Zn ?_
   refine Zn ?_
   refine Zn ?_
   refine Zt ?_
   refine Zm ?_
   refine Zn ?_
   refine Zn ?_
   refine Zn ?_
   refine Zn ?_
   refine Zt ?_
   refine Zm ?_
   refine Zn ?_
   refine Zn ?_
   refine Zn ?_
   refine Zt ?_
   refine Zm ?_
   refine Zn ?_
   refine Zn ?_
   refine Zn ?_
   refine Zt ?_
   refine Za ?_
   refine VL.mt true [0, 1, 5, 20] (fun _ _ h => h) hS rfl
  replace hS := it_f h24 hS
  refine VL.gy rfl rfl (q_field gfa152_1 rfl) (by decide) ?_
  refine VL.gy rfl rfl (q_fe gone3 rfl rfl) (by decide) ?_
  refine VL.gy rfl rfl (q_gtr rfl rfl) (by decide) ?_
  refine Zf ?_
  refine Zm ?_
  refine VL.split_dec 29 rfl (fun h29 => ?_) (fun h29 => ?_)
  ·
   replace hS := it_t h29 hS
   refine Zn ?_
   refine Zn ?_
   refine Zn ?_
   refine Zn ?_
   refine Zt ?_
   refine Zm ?_
   refine Zn ?_
   refine Zn ?_
   refine Zn ?_
   refine Zt ?_
   refine Zm ?_
   refine Zn ?_
   refine Zn ?_
   refine Zn ?_
   refine Zt ?_
   refine Za ?_
   refine VL.mt true [0, 1, 5, 20] (fun _ _ h => h) hS rfl
  replace hS := it_f h29 hS
  refine VL.gy rfl rfl (q_field gfa152_2 rfl) (by decide) ?_
  refine VL.gy rfl rfl (q_fe gone3 rfl rfl) (by decide) ?_
  obtain ⟨y32_6, ey32_6, hS⟩ := bd_s hS
  refine VL.gy rfl rfl (q_call (rectoref14_Mode_ct z11_1.mode ey32_6) rfl (fun _ _ => rfl)) (by decide) ?_
  refine VL.gy rfl rfl (q_not rfl) (by decide) ?_
  refine Zf ?_
  refine Zm ?_
  refine VL.split 35 rfl (fun h35 => ?_) (fun h35 => ?_)
  ·
   replace hS := it_t h35 hS
   refine Zn ?_
   refine Zn ?_
   refine Zn ?_
   refine Zt ?_
   refine Zm ?_
   refine Zn ?_
   refine Zn ?_
   refine Zn ?_
   refine Zt ?_
   refine Za ?_
   refine VL.mt true [0, 1, 5, 20] (fun _ _ h => h) hS rfl
  replace hS := it_b h35 hS
  refine VL.gy rfl rfl (q_field gfa152_4 rfl) (by decide) ?_
  refine VL.gy rfl rfl (q_fe gone3 rfl rfl) (by decide) ?_
  refine VL.gy rfl rfl (q_lss rfl rfl) (by decide) ?_
  refine Zf ?_
  refine Zm ?_
  refine VL.split_dec 40 rfl (fun h40 => ?_) (fun h40 => ?_)
  ·
   replace hS := it_t h40 hS
   refine Zn ?_
   refine Zn ?_
   refine Zn ?_
   refine Zt ?_
   refine Za ?_
   refine VL.mt true [0, 1, 5, 20] (fun _ _ h => h) hS rfl
  replace hS := it_f h40 hS
  refine VL.gy rfl rfl (q_field gfa152_5 rfl) (by decide) ?_
  refine VL.gy rfl rfl (q_fe gone3 rfl rfl) (by decide) ?_
  refine VL.gy rfl rfl (q_lss rfl rfl) (by decide) ?_
  refine Zf ?_
  refine Za ?_
  refine VL.mt (decide (z11_1.size < 0)) [0, 1, 5, 20] (fun _ _ h => h) hS rfl
 clear hS
 rintro x20_4 hS
 show VC _ _ _ _ _ [(0, l_0.val), (1, i64 i_1), (5, ptr b5_2 0), (20, .bool x20_4)] (Mo.and Mo.tt _) (Ow.star (Blk b5_2 [str z11_1.path, i64 z11_1.stage, i64 z11_1.mode, str z11_1.data, i64 z11_1.time, i64 z11_1.size] 152) (Ow.emp))
 refine VC.cond rfl (fun h20 => ?_) (fun h20 => ?_)
 ·
  replace hS := it_t h20 hS
  refine Zq (Zr ?_)
  refine Za ?_
  refine Zl ?_
  cases hS
  exact Ze
 replace hS := it_b h20 hS
 refine Zq (Zr ?_)
 refine VL.q (q_field gfa152_3 rfl) (by decide) ?_
 refine VL.q (q_fe gone9 rfl rfl) (by decide) ?_
 refine VL.q (q_slen Tryz.underlying9 rfl) (by decide) ?_
 refine VL.q (q_gtr rfl rfl) (by decide) ?_
 refine Za ?_
 refine Zl ?_
 refine VC.cond_dec rfl (fun h45 => ?_) (fun h45 => ?_)
 ·
  replace hS := it_t h45 hS
  refine Zq (Zr ?_)
  refine Za ?_
  refine Zl ?_
  cases hS
  exact Ze
 replace hS := it_f h45 hS
 refine Zk ?_
 refine Zq ?_
 refine VC.cutJ (S := Bool) (fun (x84_7 : Bool) => x84_7) (fun (x84_7 : Bool) => [(0, l_0.val), (1, i64 i_1), (5, ptr b5_2 0), (84, .bool x84_7)]) (fun (x84_7 : Bool) => Mo.tt) (fun (x84_7 : Bool) => Ow.star (Blk b5_2 [str z11_1.path, i64 z11_1.stage, i64 z11_1.mode, str z11_1.data, i64 z11_1.time, i64 z11_1.size] 152) (Ow.emp)) hS ?_ ?_
 ·
  clear hS
  intro k8 hS
  refine VC.draw ((List.range 35).map fun k => (k, true)) mixed (by kernel_rfl) (by kernel_rfl) (by kernel_rfl) ?_
  refine VD.q rfl (q_move rfl) (by decide) ?_
  refine VD.q rfl (q_gtr rfl rfl) (by decide) ?_
  refine VD.q rfl (q_move rfl) (by decide) ?_
  refine VD.split_dec 52 rfl (fun h52 => ?_) (fun h52 => ?_)
  ·
   replace hS := it_t h52 hS
   refine VD.gy rfl rfl rfl (q_move rfl) (by decide) ?_
   refine VD.gy rfl rfl rfl (q_move rfl) (by decide) ?_
   obtain ⟨b55, hS⟩ := gd_s hS
   refine VD.gy rfl rfl rfl (q_sub rfl rfl b55) (by decide) ?_
   obtain ⟨z56_9, nz56_9, hz56_9, hS⟩ := at_s hS
   refine VD.gy rfl rfl rfl (q_ixm (s := l_0) Tryz.underlying68 gsz152 rfl rfl nz56_9 (lt_of_get nz56_9 hz56_9)) (by decide) ?_
   refine VD.gy rfl rfl rfl (q_field gfa152_0 rfl) (by decide) ?_
   refine VD.gy rfl rfl rfl (q_elf (s := l_0) gone9 rfl hz56_9 rfl) (by decide) ?_
   refine VD.gy rfl rfl rfl (q_field gfa152_0 rfl) (by decide) ?_
   refine VD.gy rfl rfl rfl (q_fe gone9 rfl rfl) (by decide) ?_
   refine VD.gy rfl rfl rfl (q_sgtr rfl rfl) (by decide) ?_
   refine VD.gy rfl rfl rfl (q_move rfl) (by decide) ?_
   refine VD.split 62 rfl (fun h62 => ?_) (fun h62 => ?_)
   ·
    replace hS := it_t h62 hS
    refine Zd ?_
    refine Zd ?_
    refine Zd ?_
    refine Zd ?_
    refine Zd ?_
    refine Zd ?_
    refine Zd ?_
    refine Zd ?_
    refine Zd ?_
    refine Zd ?_
    refine VD.gu rfl rfl rfl (by decide) ?_
    refine VD.gu rfl rfl rfl (by decide) ?_
    refine VD.gu rfl rfl rfl (by decide) ?_
    refine VD.gu rfl rfl rfl (by decide) ?_
    refine VD.gu rfl rfl rfl (by decide) ?_
    refine VD.gu rfl rfl rfl (by decide) ?_
    refine VD.gu rfl rfl rfl (by decide) ?_
    refine VD.gu rfl rfl rfl (by decide) ?_
    refine VD.gu rfl rfl rfl (by decide) ?_
    refine Zd ?_
    refine VD.gy rfl rfl rfl (q_pick_t rfl rfl) (by decide) ?_
    refine VD.q rfl (q_pick_t rfl rfl) (by decide) ?_
    refine VD.mt true [0, 1, 5, 84] (fun _ _ h => h) hS rfl
   replace hS := it_b h62 hS
   refine VD.gy rfl rfl rfl (q_move rfl) (by decide) ?_
   refine VD.gy rfl rfl rfl (q_move rfl) (by decide) ?_
   obtain ⟨b65, hS⟩ := gd_s hS
   refine VD.gy rfl rfl rfl (q_sub rfl rfl b65) (by decide) ?_
   obtain ⟨z66_10, nz66_10, hz66_10, hS⟩ := at_s hS
   refine VD.gy rfl rfl rfl (q_ixm (s := l_0) Tryz.underlying68 gsz152 rfl rfl nz66_10 (lt_of_get nz66_10 hz66_10)) (by decide) ?_
   refine VD.gy rfl rfl rfl (q_field gfa152_0 rfl) (by decide) ?_
   refine VD.gy rfl rfl rfl (q_elf (s := l_0) gone9 rfl hz66_10 rfl) (by decide) ?_
   refine VD.gy rfl rfl rfl (q_field gfa152_0 rfl) (by decide) ?_
   refine VD.gy rfl rfl rfl (q_fe gone9 rfl rfl) (by decide) ?_
   refine VD.gy rfl rfl rfl (q_seq rfl rfl) (by decide) ?_
   refine VD.gy rfl rfl rfl (q_move rfl) (by decide) ?_
   refine VD.split_dec 72 rfl (fun h72 => ?_) (fun h72 => ?_)
   ·
    replace hS := it_t h72 hS
    refine VD.gy rfl rfl rfl (q_move rfl) (by decide) ?_
    refine VD.gy rfl rfl rfl (q_move rfl) (by decide) ?_
    obtain ⟨b75, hS⟩ := gd_s hS
    refine VD.gy rfl rfl rfl (q_sub rfl rfl b75) (by decide) ?_
    obtain ⟨z76_11, nz76_11, hz76_11, hS⟩ := at_s hS
    refine VD.gy rfl rfl rfl (q_ixm (s := l_0) Tryz.underlying68 gsz152 rfl rfl nz76_11 (lt_of_get nz76_11 hz76_11)) (by decide) ?_
    refine VD.gy rfl rfl rfl (q_field gfa152_1 rfl) (by decide) ?_
    refine VD.gy rfl rfl rfl (q_elf (s := l_0) gone3 rfl hz76_11 rfl) (by decide) ?_
    refine VD.gy rfl rfl rfl (q_field gfa152_1 rfl) (by decide) ?_
    refine VD.gy rfl rfl rfl (q_fe gone3 rfl rfl) (by decide) ?_
    refine VD.gy rfl rfl rfl (q_geq rfl rfl) (by decide) ?_
    refine VD.gy rfl rfl rfl (q_pick_t rfl rfl) (by decide) ?_
    refine VD.gy rfl rfl rfl (q_pick_f rfl rfl) (by decide) ?_
    refine VD.q rfl (q_pick_t rfl rfl) (by decide) ?_
    refine VD.mt (decide (z11_1.stage ≤ z76_11.stage)) [0, 1, 5, 84] (fun _ _ h => h) hS rfl
   replace hS := it_f h72 hS
   refine Zd ?_
   refine Zd ?_
   refine Zd ?_
   refine Zd ?_
   refine Zd ?_
   refine Zd ?_
   refine Zd ?_
   refine Zd ?_
   refine Zd ?_
   refine VD.gy rfl rfl rfl (q_pick_f rfl rfl) (by decide) ?_
   refine VD.gy rfl rfl rfl (q_pick_f rfl rfl) (by decide) ?_
   refine VD.q rfl (q_pick_t rfl rfl) (by decide) ?_
   refine VD.mt false [0, 1, 5, 84] (fun _ _ h => h) hS rfl
  replace hS := it_f h52 hS
  refine Zd ?_
  refine Zd ?_
  refine Zd ?_
  refine Zd ?_
  refine Zd ?_
  refine Zd ?_
  refine Zd ?_
  refine Zd ?_
  refine Zd ?_
  refine Zd ?_
  refine VD.gu rfl rfl rfl (by decide) ?_
  refine VD.gu rfl rfl rfl (by decide) ?_
  refine VD.gu rfl rfl rfl (by decide) ?_
  refine VD.gu rfl rfl rfl (by decide) ?_
  refine VD.gu rfl rfl rfl (by decide) ?_
  refine VD.gu rfl rfl rfl (by decide) ?_
  refine VD.gu rfl rfl rfl (by decide) ?_
  refine VD.gu rfl rfl rfl (by decide) ?_
  refine VD.gu rfl rfl rfl (by decide) ?_
  refine VD.gu rfl rfl rfl (by decide) ?_
  refine VD.gu rfl rfl rfl (by decide) ?_
  refine VD.gu rfl rfl rfl (by decide) ?_
  refine VD.gu rfl rfl rfl (by decide) ?_
  refine VD.gu rfl rfl rfl (by decide) ?_
  refine VD.gu rfl rfl rfl (by decide) ?_
  refine VD.gu rfl rfl rfl (by decide) ?_
  refine VD.gu rfl rfl rfl (by decide) ?_
  refine VD.gu rfl rfl rfl (by decide) ?_
  refine VD.gu rfl rfl rfl (by decide) ?_
  refine VD.gu rfl rfl rfl (by decide) ?_
  refine Zd ?_
  refine VD.q rfl (q_pick_f rfl rfl) (by decide) ?_
  refine VD.mt false [0, 1, 5, 84] (fun _ _ h => h) hS rfl
 clear hS
 rintro x84_7 hS
 show VC _ _ _ _ _ [(0, l_0.val), (1, i64 i_1), (5, ptr b5_2 0), (84, .bool x84_7)] (Mo.and Mo.tt _) (Ow.star (Blk b5_2 [str z11_1.path, i64 z11_1.stage, i64 z11_1.mode, str z11_1.data, i64 z11_1.time, i64 z11_1.size] 152) (Ow.emp))
 refine VC.cond rfl (fun h84 => ?_) (fun h84 => ?_)
 ·
  replace hS := it_t h84 hS
  refine Zq (Zr ?_)
  refine Za ?_
  refine Zl ?_
  cases hS
  exact Ze
 replace hS := it_b h84 hS
 refine Zk ?_
 refine Zq (Zq (Zr ?_))
 refine Za ?_
 refine Zl ?_
 refine Zb ?_
 refine VC.iter (S := Int) (fun (k7_12 : Int) => k7_12) (fun (k7_12 : Int) => [(0, l_0.val), (1, i64 i_1), (5, ptr b5_2 0), (7, i64 k7_12)]) (fun (k7_12 : Int) => Mo.tt) (fun (k7_12 : Int) => Ow.star (Blk b5_2 [str z11_1.path, i64 z11_1.stage, i64 z11_1.mode, str z11_1.data, i64 z11_1.time, i64 z11_1.size] 152) (Ow.emp)) 0 [0, 1, 5, 7] hS rfl ?_
 clear hS
 rintro k7_12 m1 y1 hS hK1
 show VC _ _ _ _ _ [(0, l_0.val), (1, i64 i_1), (5, ptr b5_2 0), (7, i64 k7_12)] (Mo.and Mo.tt _) (Ow.star (Blk b5_2 [str z11_1.path, i64 z11_1.stage, i64 z11_1.mode, str z11_1.data, i64 z11_1.time, i64 z11_1.size] 152) (Ow.emp))
 refine Zq (Zq (Zr ?_))
 refine Zm ?_
 refine Zm ?_
 refine VL.q (q_lss rfl rfl) (by decide) ?_
 refine Zl ?_
 refine VC.cond_dec rfl (fun h87 => ?_) (fun h87 => ?_)
 ·
  replace hS := it_t h87 hS
  refine Zk ?_
  refine Zq (Zb ?_)
  refine VC.cutJ (S := Bool) (fun (x110_13 : Bool) => x110_13) (fun (x110_13 : Bool) => [(0, l_0.val), (1, i64 i_1), (5, ptr b5_2 0), (7, i64 k7_12), (110, .bool x110_13)]) (fun (x110_13 : Bool) => Mo.tt) (fun (x110_13 : Bool) => Ow.star (Blk b5_2 [str z11_1.path, i64 z11_1.stage, i64 z11_1.mode, str z11_1.data, i64 z11_1.time, i64 z11_1.size] 152) (Ow.emp)) hS ?_ ?_
  ·
   clear hS
   intro k14 hS
   refine VC.draw ((List.range 21).map fun k => (k, true)) mixed (by kernel_rfl) (by kernel_rfl) (by kernel_rfl) ?_
   refine VD.q rfl (q_move rfl) (by decide) ?_
   refine VD.q rfl (q_move rfl) (by decide) ?_
   obtain ⟨z92_15, nz92_15, hz92_15, hS⟩ := at_s hS
   refine VD.q rfl (q_ixm (s := l_0) Tryz.underlying68 gsz152 rfl rfl nz92_15 (lt_of_get nz92_15 hz92_15)) (by decide) ?_
   refine VD.q rfl (q_field gfa152_0 rfl) (by decide) ?_
   refine VD.q rfl (q_elf (s := l_0) gone9 rfl hz92_15 rfl) (by decide) ?_
   refine VD.q rfl (q_field gfa152_0 rfl) (by decide) ?_
   refine VD.q rfl (q_fe gone9 rfl rfl) (by decide) ?_
   refine VD.q rfl (q_seq rfl rfl) (by decide) ?_
   refine VD.q rfl (q_move rfl) (by decide) ?_
   refine VD.split_dec 98 rfl (fun h98 => ?_) (fun h98 => ?_)
   ·
    replace hS := it_t h98 hS
    refine VD.gy rfl rfl rfl (q_move rfl) (by decide) ?_
    refine VD.gy rfl rfl rfl (q_move rfl) (by decide) ?_
    obtain ⟨z101_16, nz101_16, hz101_16, hS⟩ := at_s hS
    refine VD.gy rfl rfl rfl (q_ixm (s := l_0) Tryz.underlying68 gsz152 rfl rfl nz101_16 (lt_of_get nz101_16 hz101_16)) (by decide) ?_
    refine VD.gy rfl rfl rfl (q_field gfa152_1 rfl) (by decide) ?_
    refine VD.gy rfl rfl rfl (q_elf (s := l_0) gone3 rfl hz101_16 rfl) (by decide) ?_
    refine VD.gy rfl rfl rfl (q_eql rfl rfl) (by decide) ?_
    refine VD.gy rfl rfl rfl (q_move rfl) (by decide) ?_
    refine VD.split_dec 105 rfl (fun h105 => ?_) (fun h105 => ?_)
    ·
     replace hS := it_t h105 hS
     refine Zd ?_
     refine Zd ?_
     refine Zd ?_
     refine VD.gy rfl rfl rfl (q_pick_t rfl rfl) (by decide) ?_
     refine VD.q rfl (q_pick_t rfl rfl) (by decide) ?_
     refine VD.mt true [0, 1, 5, 7, 110] (fun _ _ h => h) hS rfl
    replace hS := it_f h105 hS
    refine VD.gy rfl rfl rfl (q_field gfa152_1 rfl) (by decide) ?_
    refine VD.gy rfl rfl rfl (q_fe gone3 rfl rfl) (by decide) ?_
    refine VD.gy rfl rfl rfl (q_eql rfl rfl) (by decide) ?_
    refine VD.gy rfl rfl rfl (q_pick_f rfl rfl) (by decide) ?_
    refine VD.q rfl (q_pick_t rfl rfl) (by decide) ?_
    refine VD.mt (decide (z11_1.stage = 0)) [0, 1, 5, 7, 110] (fun _ _ h => h) hS rfl
   replace hS := it_f h98 hS
   refine Zd ?_
   refine Zd ?_
   refine Zd ?_
   refine Zd ?_
   refine Zd ?_
   refine Zd ?_
   refine Zd ?_
   refine VD.gu rfl rfl rfl (by decide) ?_
   refine VD.gu rfl rfl rfl (by decide) ?_
   refine VD.gu rfl rfl rfl (by decide) ?_
   refine Zd ?_
   refine VD.q rfl (q_pick_f rfl rfl) (by decide) ?_
   refine VD.mt false [0, 1, 5, 7, 110] (fun _ _ h => h) hS rfl
  clear hS
  rintro x110_13 hS
  show VC _ _ _ _ _ [(0, l_0.val), (1, i64 i_1), (5, ptr b5_2 0), (7, i64 k7_12), (110, .bool x110_13)] (Mo.and Mo.tt _) (Ow.star (Blk b5_2 [str z11_1.path, i64 z11_1.stage, i64 z11_1.mode, str z11_1.data, i64 z11_1.time, i64 z11_1.size] 152) (Ow.emp))
  refine VC.cond rfl (fun h110 => ?_) (fun h110 => ?_)
  ·
   replace hS := it_t h110 hS
   refine Zq (Zr ?_)
   refine Za ?_
   refine Zl ?_
   replace hS := up2 hS hK1
   cases hS
   exact Ze
  replace hS := it_b h110 hS
  refine Zk ?_
  refine Zr ?_
  refine Zm ?_
  obtain ⟨b89, hS⟩ := gd_s hS
  refine VL.q (q_add rfl rfl b89) (by decide) ?_
  refine Za ?_
  refine VL.rnd (k7_12 + 1) [0, 1, 5, 7] (fun _ _ h => h) (go2 hS hK1) rfl
 replace hS := it_f h87 hS
 replace hS := up2 hS hK1
 refine Zx ?_
 refine Zq (Zq (Zr ?_))
 refine Za ?_
 refine Zl ?_
 refine Zb ?_
 refine VC.iter (S := Int) (fun (k8_17 : Int) => k8_17) (fun (k8_17 : Int) => [(0, l_0.val), (1, i64 i_1), (5, ptr b5_2 0), (8, i64 k8_17)]) (fun (k8_17 : Int) => Mo.tt) (fun (k8_17 : Int) => Ow.star (Blk b5_2 [str z11_1.path, i64 z11_1.stage, i64 z11_1.mode, str z11_1.data, i64 z11_1.time, i64 z11_1.size] 152) (Ow.emp)) 0 [0, 1, 5, 8] hS rfl ?_
 clear hS
 rintro k8_17 m1 y1 hS hK1
 show VC _ _ _ _ _ [(0, l_0.val), (1, i64 i_1), (5, ptr b5_2 0), (8, i64 k8_17)] (Mo.and Mo.tt _) (Ow.star (Blk b5_2 [str z11_1.path, i64 z11_1.stage, i64 z11_1.mode, str z11_1.data, i64 z11_1.time, i64 z11_1.size] 152) (Ow.emp))
 refine Zq (Zq (Zr ?_))
 refine Zm ?_
 refine Zm ?_
 refine VL.q (q_lss rfl rfl) (by decide) ?_
 refine Zl ?_
 refine VC.cond_dec rfl (fun h113 => ?_) (fun h113 => ?_)
 ·
  replace hS := it_t h113 hS
  refine Zk ?_
  refine Zq (Zb (Zq ?_))
  refine VC.draw ((List.range 8).map fun k => (k, true)) mixed (by kernel_rfl) (by kernel_rfl) (by kernel_rfl) ?_
  refine VD.q rfl (q_move rfl) (by decide) ?_
  refine VD.q rfl (q_move rfl) (by decide) ?_
  obtain ⟨z118_18, nz118_18, hz118_18, hS⟩ := at_s hS
  refine VD.q rfl (q_ixm (s := l_0) Tryz.underlying68 gsz152 rfl rfl nz118_18 (lt_of_get nz118_18 hz118_18)) (by decide) ?_
  refine VD.q rfl (q_field gfa152_0 rfl) (by decide) ?_
  refine VD.q rfl (q_elf (s := l_0) gone9 rfl hz118_18 rfl) (by decide) ?_
  refine VD.q rfl (q_field gfa152_0 rfl) (by decide) ?_
  refine VD.q rfl (q_fe gone9 rfl rfl) (by decide) ?_
  obtain ⟨y123_19, ey123_19, hS⟩ := bd_s hS
  refine VD.q rfl (q_call (rectoref1_Clash_ct z118_18.path z11_1.path ey123_19) rfl (fun _ _ => rfl)) (by decide) ?_
  refine VD.to (fun _ _ h => h) ?_
  refine VC.keep [0, 1, 5, 8, 123] rfl ?_
  refine VC.cond rfl (fun h123 => ?_) (fun h123 => ?_)
  ·
   replace hS := it_t h123 hS
   refine Zq (Zr ?_)
   refine Za ?_
   refine Zl ?_
   replace hS := up2 hS hK1
   cases hS
   exact Ze
  replace hS := it_b h123 hS
  refine Zk ?_
  refine Zr ?_
  refine Zm ?_
  obtain ⟨b115, hS⟩ := gd_s hS
  refine VL.q (q_add rfl rfl b115) (by decide) ?_
  refine Za ?_
  refine VL.rnd (k8_17 + 1) [0, 1, 5, 8] (fun _ _ h => h) (go2 hS hK1) rfl
 replace hS := it_f h113 hS
 replace hS := up2 hS hK1
 refine Zx ?_
 refine Zq (Zr ?_)
 refine Za ?_
 refine Zl ?_
 cases hS
 exact Ze
theorem rectoref14_CheckIndex_ct (l_0 : Sv Rectoref14Entry) {r : Rectoref3WrongP} (hS : Sh.rectoref14_CheckIndex l_0.l = some r) :
 Ct Tryz.prog 35 [l_0.val] l_0.ok (Ow.emp) (X := Rectoref3Wrong) (fun x => .agg (Dat.enc x).toArray) (fun x => r = x.pl) (fun x => x.m) (fun x => Ow.emp) := by
 refine Ct.of Tryz.func35 rfl (by kernel_rfl) Tryz.ntmps35 (by simp) fun c => ?_
 unfold Sh.rectoref14_CheckIndex at hS
 refine Zq (Zr ?_)
 refine VL.alloc (cs := [.slice none 0 0, i64 0]) (by kernel_rfl) (by decide) fun b2_1 => ?_
 refine Zl ?_
 refine Zq (Zq (Zr ?_))
 refine Zm ?_
 refine VL.q (q_ln (s := l_0) Tryz.underlying68 rfl) (by decide) ?_
 refine VL.q (q_gtr rfl rfl) (by decide) ?_
 refine Zl ?_
 refine VC.cond_dec rfl (fun h7 => ?_) (fun h7 => ?_)
 ·
  replace hS := it_t h7 hS
  refine Zq (Zr ?_)
  obtain ⟨y8_2, ey8_2, hS⟩ := bd_s hS
  refine VL.callF (rectoref3_At_ct [101, 110, 116, 114, 121] 256 4 ey8_2) rfl (by decide) ?_
  rintro q8_2_0 rfl
  try dsimp only
  refine VL.store (vc := [q8_2_0.parts.val, i64 q8_2_0.err]) (cs' := [q8_2_0.parts.val, i64 q8_2_0.err]) rfl rfl rfl gsz54 rfl rfl (Nat.le_of_ble_eq_true rfl) rfl ?_
  refine Zl ?_
  cases hS
  exact VC.ret (finG (vs := [.agg #[q8_2_0.parts.val, i64 q8_2_0.err]]) (.inr rfl) rfl (RVs.cell gagg54 rfl rfl Rd.blk (RVs.nil)) ⟨q8_2_0.parts, q8_2_0.err⟩ rfl rfl (by (try dsimp only); exact InM.out) (fun _ _ => trivial))
 replace hS := it_f h7 hS
 refine Zk ?_
 refine Zq (Zq (Zr ?_))
 refine Za ?_
 refine Zl ?_
 refine Zb ?_
 refine VC.iter (S := Int) (fun (i3_3 : Int) => i3_3) (fun (i3_3 : Int) => [(0, l_0.val), (2, ptr b2_1 0), (3, i64 i3_3)]) (fun (i3_3 : Int) => Mo.tt) (fun (i3_3 : Int) => Ow.star (Blk b2_1 [.slice none 0 0, i64 0] 54) (Ow.emp)) 0 [0, 2, 3] hS rfl ?_
 clear hS
 rintro i3_3 m1 y1 hS hK1
 show VC _ _ _ _ _ [(0, l_0.val), (2, ptr b2_1 0), (3, i64 i3_3)] (Mo.and Mo.tt _) (Ow.star (Blk b2_1 [.slice none 0 0, i64 0] 54) (Ow.emp))
 refine Zq (Zq (Zr ?_))
 refine Zm ?_
 refine Zm ?_
 refine VL.q (q_ln (s := l_0) Tryz.underlying68 rfl) (by decide) ?_
 refine VL.q (q_lss rfl rfl) (by decide) ?_
 refine Zl ?_
 refine VC.cond_dec rfl (fun h12 => ?_) (fun h12 => ?_)
 ·
  replace hS := it_t h12 hS
  refine Zk ?_
  refine Zq (Zb (Zq (Zr ?_)))
  refine Zm ?_
  refine Zm ?_
  obtain ⟨y17_4, ey17_4, hS⟩ := bd_s hS
  refine VL.q (q_call (rectoref14_entry_ct l_0 i3_3 ey17_4) rfl (fun _ _ => rfl)) (by decide) ?_
  refine Za ?_
  refine Zl ?_
  refine VC.keep [0, 2, 3, 4] rfl ?_
  refine Zq (Zr ?_)
  refine Zm ?_
  refine VL.q (q_neq rfl rfl) (by decide) ?_
  refine Zl ?_
  refine VC.cond_ndec rfl (fun h19 => ?_) (fun h19 => ?_)
  ·
   replace hS := it_f h19 hS
   refine Zq (Zr ?_)
   refine Zm ?_
   refine Zm ?_
   obtain ⟨y22_5, ey22_5, hS⟩ := bd_s hS
   refine VL.callF (rectoref3_At_ct [101, 110, 116, 114, 121] i3_3 y17_4 ey22_5) rfl (by decide) ?_
   rintro q22_5_0 rfl
   try dsimp only
   refine VL.store (vc := [q22_5_0.parts.val, i64 q22_5_0.err]) (cs' := [q22_5_0.parts.val, i64 q22_5_0.err]) rfl rfl rfl gsz54 rfl rfl (Nat.le_of_ble_eq_true rfl) rfl ?_
   refine Zl ?_
   replace hS := up2 hS hK1
   cases hS
   exact VC.ret (finG (vs := [.agg #[q22_5_0.parts.val, i64 q22_5_0.err]]) (.inr rfl) rfl (RVs.cell gagg54 rfl rfl Rd.blk (RVs.nil)) ⟨q22_5_0.parts, q22_5_0.err⟩ rfl rfl (by (try dsimp only); exact InM.out) (fun _ _ => trivial))
  replace hS := it_t h19 hS
  refine Zk ?_
  refine Zr ?_
  refine Zm ?_
  obtain ⟨b14, hS⟩ := gd_s hS
  refine VL.q (q_add rfl rfl b14) (by decide) ?_
  refine Za ?_
  refine VL.rnd (i3_3 + 1) [0, 2, 3] (fun _ _ h => h) (go2 hS hK1) rfl
 replace hS := it_f h12 hS
 replace hS := up2 hS hK1
 refine Zx ?_
 refine Zq (Zr ?_)
 refine VL.q (q_build (vs := []) (cs := #[.slice none 0 0, i64 0]) rfl (by kernel_rfl)) (by decide) ?_
 refine VL.store (vc := [.slice none 0 0, i64 0]) (cs' := [.slice none 0 0, i64 0]) rfl rfl rfl gsz54 rfl rfl (Nat.le_of_ble_eq_true rfl) rfl ?_
 refine Zl ?_
 cases hS
 exact VC.ret (finG (vs := [.agg #[.slice none 0 0, i64 0]]) (.inr rfl) rfl (RVs.cell gagg54 rfl rfl Rd.blk (RVs.nil)) ⟨⟨none, 0, []⟩, 0⟩ rfl rfl (by (try dsimp only); exact InM.out) (fun _ _ => trivial))
theorem rectoref3_Int_ct (v_0 : Int) {r : List UInt8} (hS : Sh.rectoref3_Int v_0 = some r) :
 Ct Tryz.prog 90 [i64 v_0] Mo.tt (Ow.emp) (X := Sv UInt8) (fun x => x.val) (fun x => r = x.l) (fun x => Mo.tt) (fun x => Sv.own x 5) := by
 refine Ct.of Tryz.func90 rfl (by kernel_rfl) Tryz.ntmps90 (by simp) fun c => ?_
 unfold Sh.rectoref3_Int at hS
 refine Zq (Zr ?_)
 refine Za ?_
 refine Zl ?_
 refine Zq (Zr ?_)
 refine Zm ?_
 refine VL.q (q_convW Tryz.underlying3 Tryz.underlying231 rfl) (by decide) ?_
 refine VL.q (q_shl rfl rfl (by decide)) (by decide) ?_
 refine Za ?_
 refine Zl ?_
 refine VC.cutJ (S := Int) (fun (u3_1 : Int) => u3_1) (fun (u3_1 : Int) => [(3, .int .u64 u3_1)]) (fun (u3_1 : Int) => Mo.tt) (fun (u3_1 : Int) => Ow.emp) hS ?_ ?_
 ·
  clear hS
  intro k2 hS
  refine Zq (Zr ?_)
  refine Zm ?_
  refine VL.q (q_lss rfl rfl) (by decide) ?_
  refine Zl ?_
  refine VC.cond_dec rfl (fun h9 => ?_) (fun h9 => ?_)
  ·
   replace hS := it_t h9 hS
   refine Zr ?_
   refine Zm ?_
   obtain ⟨b11, hS⟩ := gd_s hS
   refine VL.q (q_add rfl rfl b11) (by decide) ?_
   obtain ⟨b12, hS⟩ := gd_s hS
   refine VL.q (q_sub rfl rfl b12) (by decide) ?_
   refine VL.q (q_convW Tryz.underlying3 Tryz.underlying231 rfl) (by decide) ?_
   refine VL.q (q_shl rfl rfl (by decide)) (by decide) ?_
   refine VL.q (q_or rfl rfl) (by decide) ?_
   refine Za ?_
   refine VL.mt (bOr .u64 (sHl .u64 (IntKind.wrap .u64 (0 - (v_0 + 1))) 1) 1) [3] (fun _ _ h => h) hS rfl
  replace hS := it_f h9 hS
  refine VC.skip_mt (sHl .u64 (IntKind.wrap .u64 v_0) 1) [3] (fun _ _ h => h) hS rfl
 clear hS
 rintro u3_1 hS
 show VC _ _ _ _ _ [(3, .int .u64 u3_1)] (Mo.and Mo.tt _) (Ow.emp)
 refine Zq (Zr ?_)
 refine Za ?_
 refine Zl ?_
 refine Zq (Zb ?_)
 refine VC.nilO (⟨none, 0, []⟩ : Sv UInt8) 5 ⟨rfl, rfl⟩ ?_
 refine VC.iter (S := Int × Sv UInt8) (fun sg => (sg.1, sg.2.l)) (fun sg => [(3, .int .u64 sg.1), (4, sg.2.val)]) (fun sg => Mo.tt) (fun sg => Ow.star (Sv.own sg.2 5) (Ow.emp)) (u3_1, ⟨none, 0, []⟩) [3, 4] hS rfl ?_
 clear hS
 rintro ⟨u3_3, out4_4⟩ m1 y1 hS hK1
 show VC _ _ _ _ _ [(3, .int .u64 u3_3), (4, out4_4.val)] (Mo.and Mo.tt _) (Ow.star (Sv.own out4_4 5) (Ow.emp))
 refine Zq (Zq (Zr ?_))
 refine Zm ?_
 refine VL.q (q_geq rfl rfl) (by decide) ?_
 refine Zl ?_
 refine VC.cond_dec rfl (fun h17 => ?_) (fun h17 => ?_)
 ·
  replace hS := it_t h17 hS
  refine Zk ?_
  refine Zb (Zq (Zr ?_))
  refine Zm ?_
  refine Zm ?_
  refine VL.q (q_and rfl rfl) (by decide) ?_
  refine VL.q (q_or rfl rfl) (by decide) ?_
  refine VL.q (q_convW Tryz.underlying231 Tryz.underlying5 rfl) (by decide) ?_
  obtain ⟨b23_22, hS⟩ := gd_s hS
  obtain ⟨u23_6, eu23_6, hS⟩ := lt_s hS
  refine VL.setv 22 rfl (congrArg (Value.int .u8) (u8_z b23_22 eu23_6)) ?_
  refine VL.lit (α := UInt8) (xs := [.tmp 22]) (vs := [.int .u8 (u23_6.toNat : Int)]) [u23_6] Tryz.underlying27 glit5 (by decide) rfl rfl rfl rfl (by decide) (fun _ _ _ _ => trivial) (by decide) (fun s23_5 hs23_5 => ?_) (by decide)
  replace hS := lt_to hs23_5 hS
  obtain ⟨b24, hS⟩ := gd_s hS
  refine VL.app (s := out4_4) (r := s23_5) Tryz.underlying27 gapp5 (by decide) rfl Fo.out (ap1 b24) (ap2 b24 (by decide)) (by decide) (fun s24_8 hs24_8 => ?_)
  replace hS := lt_to hs24_8 hS
  refine Za ?_
  refine Zl ?_
  refine VC.keep [3, 4] rfl ?_
  refine Zr ?_
  refine Zm ?_
  refine VL.q (q_shr rfl rfl (by decide)) (by decide) ?_
  refine Za ?_
  refine VL.rnd ((sHr .u64 u3_3 7), s24_8) [3, 4] (fun _ _ h => h) (go2 hS hK1) rfl
 replace hS := it_f h17 hS
 replace hS := up2 hS hK1
 refine Zx ?_
 refine Zq (Zr ?_)
 refine Zm ?_
 refine Zm ?_
 refine VL.q (q_convW Tryz.underlying231 Tryz.underlying5 rfl) (by decide) ?_
 obtain ⟨b30_29, hS⟩ := gd_s hS
 obtain ⟨u30_11, eu30_11, hS⟩ := lt_s hS
 refine VL.setv 29 rfl (congrArg (Value.int .u8) (u8_z b30_29 eu30_11)) ?_
 refine VL.lit (α := UInt8) (xs := [.tmp 29]) (vs := [.int .u8 (u30_11.toNat : Int)]) [u30_11] Tryz.underlying27 glit5 (by decide) rfl rfl rfl rfl (by decide) (fun _ _ _ _ => trivial) (by decide) (fun s30_10 hs30_10 => ?_) (by decide)
 replace hS := lt_to hs30_10 hS
 obtain ⟨b31, hS⟩ := gd_s hS
 refine VL.app (s := out4_4) (r := s30_10) Tryz.underlying27 gapp5 (by decide) rfl Fo.out (ap1 b31) (ap2 b31 (by decide)) (by decide) (fun s31_13 hs31_13 => ?_)
 replace hS := lt_to hs31_13 hS
 refine Za ?_
 refine Zl ?_
 cases hS
 exact VC.ret (fin1 (.inr rfl) rfl rfl s31_13 rfl rfl (by (try dsimp only); exact InM.out) (by (try dsimp only); exact EntO.out))
theorem rectoref3_Text_ct (s_0 : Str) {r : List UInt8} (hS : Sh.rectoref3_Text s_0 = some r) :
 Ct Tryz.prog 91 [str s_0] Mo.tt (Ow.emp) (X := Sv UInt8) (fun x => x.val) (fun x => r = x.l) (fun x => Mo.tt) (fun x => Sv.own x 5) := by
 refine Ct.of Tryz.func91 rfl (by kernel_rfl) Tryz.ntmps91 (by simp) fun c => ?_
 unfold Sh.rectoref3_Text at hS
 refine Zq (Zr ?_)
 refine Za ?_
 refine Zl ?_
 refine Zq (Zr ?_)
 refine Zm ?_
 refine VL.q (q_slen Tryz.underlying9 rfl) (by decide) ?_
 obtain ⟨y5_1, ey5_1, hS⟩ := bd_s hS
 refine VL.callO (rectoref3_Int_ct (s_0.length : Int) ey5_1) rfl (by decide) ?_
 rintro q5_1_0 rfl
 try dsimp only
 refine Zm ?_
 obtain ⟨b7, hS⟩ := gd_s hS
 refine VL.appS (s := q5_1_0) (r := s_0) Tryz.underlying27 Tryz.underlying9 gapb5 rfl Fo.out b7 (by decide) fun s7_2 hs7_2 _ => ?_
 replace hS := lt_to hs7_2 hS
 refine Za ?_
 refine Zl ?_
 cases hS
 exact VC.ret (fin1 (.inr rfl) rfl rfl s7_2 rfl rfl (by (try dsimp only); exact InM.out) (by (try dsimp only); exact EntO.out))
theorem rectoref3_Sum_ct (b_0 : Sv UInt8) {r : Int} (hS : Sh.rectoref3_Sum b_0.l = some r) :
 Ct Tryz.prog 161 [b_0.val] b_0.ok (Ow.emp) (X := Unit) (fun _ => .int .u32 r) (fun _ => True) (fun _ => Mo.tt) (fun _ => Ow.emp) := by
 refine Ct.of Tryz.func161 rfl (by kernel_rfl) Tryz.ntmps161 (by simp) fun c => ?_
 unfold Sh.rectoref3_Sum at hS
 refine Zq (Zr ?_)
 refine Za ?_
 refine Zl ?_
 refine Zq (Zr ?_)
 refine Za ?_
 refine Zl ?_
 refine Zq (Zq (Zr ?_))
 refine Za ?_
 refine Zl ?_
 refine Zb ?_
 refine VC.iter (S := Int × Int) (fun sg => (sg.1, sg.2)) (fun sg => [(0, b_0.val), (3, .int .u32 sg.1), (4, i64 sg.2)]) (fun sg => Mo.tt) (fun sg => Ow.emp) (4294967295, 0) [0, 3, 4] hS rfl ?_
 clear hS
 rintro ⟨c3_1, i4_2⟩ m1 y1 hS hK1
 show VC _ _ _ _ _ [(0, b_0.val), (3, .int .u32 c3_1), (4, i64 i4_2)] (Mo.and Mo.tt _) (Ow.emp)
 refine Zq (Zq (Zr ?_))
 refine Zm ?_
 refine Zm ?_
 refine VL.q (q_ln (s := b_0) Tryz.underlying27 rfl) (by decide) ?_
 refine VL.q (q_lss rfl rfl) (by decide) ?_
 refine Zl ?_
 refine VC.cond_dec rfl (fun h10 => ?_) (fun h10 => ?_)
 ·
  replace hS := it_t h10 hS
  refine Zk ?_
  refine Zq (Zb (Zq (Zr ?_)))
  refine Zm ?_
  refine Zm ?_
  refine Zm ?_
  obtain ⟨z16_3, nz16_3, hz16_3, hS⟩ := at_s hS
  refine VL.q (q_ixm (s := b_0) Tryz.underlying27 gsz5 rfl rfl nz16_3 (lt_of_get nz16_3 hz16_3)) (by decide) ?_
  refine VL.q (q_el (s := b_0) gone5 rfl hz16_3 rfl) (by decide) ?_
  refine VL.q (q_convW Tryz.underlying5 Tryz.underlying233 rfl) (by decide) ?_
  refine VL.q (q_xor rfl rfl) (by decide) ?_
  refine Za ?_
  refine Zl ?_
  refine VC.keep [0, 3, 4] rfl ?_
  refine Zq (Zr ?_)
  refine Za ?_
  refine Zl ?_
  refine Zb ?_
  refine VC.iter (S := Int × Int) (fun sg => (sg.1, sg.2)) (fun sg => [(0, b_0.val), (3, .int .u32 sg.1), (4, i64 i4_2), (5, i64 sg.2)]) (fun sg => Mo.tt) (fun sg => Ow.emp) ((bXor .u32 c3_1 (IntKind.wrap .u32 (z16_3.toNat : Int))), 0) [0, 3, 4, 5] hS rfl ?_
  clear hS
  rintro ⟨c3_4, k5_5⟩ m2 y2 hS hK2
  show VC _ _ _ _ _ [(0, b_0.val), (3, .int .u32 c3_4), (4, i64 i4_2), (5, i64 k5_5)] (Mo.and Mo.tt _) (Ow.emp)
  refine Zq (Zq (Zr ?_))
  refine Zm ?_
  refine VL.q (q_lss rfl rfl) (by decide) ?_
  refine Zl ?_
  refine VC.cond_dec rfl (fun h21 => ?_) (fun h21 => ?_)
  ·
   replace hS := it_t h21 hS
   refine Zk ?_
   refine VC.cutJ (S := Int) (fun (c3_6 : Int) => c3_6) (fun (c3_6 : Int) => [(0, b_0.val), (3, .int .u32 c3_6), (4, i64 i4_2), (5, i64 k5_5)]) (fun (c3_6 : Int) => Mo.tt) (fun (c3_6 : Int) => Ow.emp) hS ?_ ?_
   ·
    clear hS
    intro k7 hS
    refine Zb (Zq (Zr ?_))
    refine Zm ?_
    refine VL.q (q_and rfl rfl) (by decide) ?_
    refine Za ?_
    refine Zl ?_
    refine Zq (Zr ?_)
    refine Zm ?_
    refine VL.q (q_shr rfl rfl (by decide)) (by decide) ?_
    refine Za ?_
    refine Zl ?_
    refine Zq (Zr ?_)
    refine Zm ?_
    refine VL.q (q_eql rfl rfl) (by decide) ?_
    refine Zl ?_
    refine VC.keep [0, 3, 4, 5, 29] rfl ?_
    refine VC.cond_dec rfl (fun h29 => ?_) (fun h29 => ?_)
    ·
     replace hS := it_t h29 hS
     refine Zr ?_
     refine Zm ?_
     refine VL.q (q_xor rfl rfl) (by decide) ?_
     refine Za ?_
     refine VL.mt (bXor .u32 (sHr .u32 c3_4 1) 3988292384) [0, 3, 4, 5] (fun _ _ h => h) hS rfl
    replace hS := it_f h29 hS
    refine VC.skip_mt (sHr .u32 c3_4 1) [0, 3, 4, 5] (fun _ _ h => h) hS rfl
   clear hS
   rintro c3_6 hS
   show VC _ _ _ _ _ [(0, b_0.val), (3, .int .u32 c3_6), (4, i64 i4_2), (5, i64 k5_5)] (Mo.and Mo.tt _) (Ow.emp)
   refine Zr ?_
   refine Zm ?_
   obtain ⟨b23, hS⟩ := gd_s hS
   refine VL.q (q_add rfl rfl b23) (by decide) ?_
   refine Za ?_
   refine VL.rnd (c3_6, (k5_5 + 1)) [0, 3, 4, 5] (fun _ _ h => h) (go2 hS hK2) rfl
  replace hS := it_f h21 hS
  replace hS := up2 hS hK2
  refine Zx ?_
  refine Zr ?_
  refine Zm ?_
  obtain ⟨b12, hS⟩ := gd_s hS
  refine VL.q (q_add rfl rfl b12) (by decide) ?_
  refine Za ?_
  refine VL.rnd (c3_4, (i4_2 + 1)) [0, 3, 4] (fun _ _ h => h) (go2 hS hK1) rfl
 replace hS := it_f h10 hS
 replace hS := up2 hS hK1
 refine Zx ?_
 refine Zq (Zr ?_)
 refine Zm ?_
 refine VL.q (q_inot rfl) (by decide) ?_
 refine Za ?_
 refine Zl ?_
 cases hS
 exact Ze
theorem rectoref3_Put_ct (b_0 : Sv UInt8) {r : List UInt8} (hS : Sh.rectoref3_Put b_0.l = some r) :
 Ct Tryz.prog 92 [b_0.val] b_0.ok (Ow.emp) (X := Sv UInt8) (fun x => x.val) (fun x => r = x.l) (fun x => Mo.tt) (fun x => Sv.own x 5) := by
 refine Ct.of Tryz.func92 rfl (by kernel_rfl) Tryz.ntmps92 (by simp) fun c => ?_
 unfold Sh.rectoref3_Put at hS
 refine Zq (Zr ?_)
 refine Za ?_
 refine Zl ?_
 refine Zq (Zr ?_)
 refine Zm ?_
 obtain ⟨y5_1, ey5_1, hS⟩ := bd_s hS
 refine VL.q (q_call (rectoref3_Sum_ct b_0 ey5_1) rfl (fun _ _ => rfl)) (by decide) ?_
 refine Za ?_
 refine Zl ?_
 refine Zq (Zr ?_)
 refine VL.lit0 (α := UInt8) Tryz.underlying27 ghas5 (by decide) (fun s6_2 hs6_2 hcs6_2 => ?_)
 refine VL.nilO s6_2 5 ⟨hcs6_2, hs6_2⟩ ?_
 replace hS := lt_to hs6_2 hS
 refine Zm ?_
 obtain ⟨b8, hS⟩ := gd_s hS
 refine VL.app (s := s6_2) (r := b_0) Tryz.underlying27 gapp5 (by decide) rfl Fo.out (ap1 b8) (ap2 b8 (by decide)) (by decide) (fun s8_4 hs8_4 => ?_)
 replace hS := lt_to hs8_4 hS
 refine Zm ?_
 refine VL.q (q_convW Tryz.underlying233 Tryz.underlying5 rfl) (by decide) ?_
 refine Zm ?_
 refine VL.q (q_shr rfl rfl (by decide)) (by decide) ?_
 refine VL.q (q_convW Tryz.underlying233 Tryz.underlying5 rfl) (by decide) ?_
 refine Zm ?_
 refine VL.q (q_shr rfl rfl (by decide)) (by decide) ?_
 refine VL.q (q_convW Tryz.underlying233 Tryz.underlying5 rfl) (by decide) ?_
 refine Zm ?_
 refine VL.q (q_shr rfl rfl (by decide)) (by decide) ?_
 refine VL.q (q_convW Tryz.underlying233 Tryz.underlying5 rfl) (by decide) ?_
 obtain ⟨b20_10, hS⟩ := gd_s hS
 obtain ⟨u20_7, eu20_7, hS⟩ := lt_s hS
 refine VL.setv 10 rfl (congrArg (Value.int .u8) (u8_z b20_10 eu20_7)) ?_
 obtain ⟨b20_13, hS⟩ := gd_s hS
 obtain ⟨u20_8, eu20_8, hS⟩ := lt_s hS
 refine VL.setv 13 rfl (congrArg (Value.int .u8) (u8_z b20_13 eu20_8)) ?_
 obtain ⟨b20_16, hS⟩ := gd_s hS
 obtain ⟨u20_9, eu20_9, hS⟩ := lt_s hS
 refine VL.setv 16 rfl (congrArg (Value.int .u8) (u8_z b20_16 eu20_9)) ?_
 obtain ⟨b20_19, hS⟩ := gd_s hS
 obtain ⟨u20_10, eu20_10, hS⟩ := lt_s hS
 refine VL.setv 19 rfl (congrArg (Value.int .u8) (u8_z b20_19 eu20_10)) ?_
 refine VL.lit (α := UInt8) (xs := [.tmp 10, .tmp 13, .tmp 16, .tmp 19]) (vs := [.int .u8 (u20_7.toNat : Int), .int .u8 (u20_8.toNat : Int), .int .u8 (u20_9.toNat : Int), .int .u8 (u20_10.toNat : Int)]) [u20_7, u20_8, u20_9, u20_10] Tryz.underlying27 glit5 (by decide) rfl rfl rfl rfl (by decide) (fun _ _ _ _ => trivial) (by decide) (fun s20_6 hs20_6 => ?_) (by decide)
 replace hS := lt_to hs20_6 hS
 obtain ⟨b21, hS⟩ := gd_s hS
 refine VL.app (s := s8_4) (r := s20_6) Tryz.underlying27 gapp5 (by decide) rfl Fo.out (ap1 b21) (ap2 b21 (by decide)) (by decide) (fun s21_12 hs21_12 => ?_)
 replace hS := lt_to hs21_12 hS
 refine Za ?_
 refine Zl ?_
 refine VC.keep [2] rfl ?_
 cases hS
 exact VC.ret (fin1 (.inr rfl) rfl rfl s21_12 rfl rfl (by (try dsimp only); exact InM.out) (by (try dsimp only); exact EntO.out))
theorem rectoref14_Encode_ct (l_0 : Sv Rectoref14Entry) {r : List UInt8 × Rectoref3WrongP} (hS : Sh.rectoref14_Encode l_0.l = some r) :
 Ct Tryz.prog 37 [l_0.val] l_0.ok (Ow.emp) (X := Sv UInt8 × Rectoref3Wrong) (fun x => .tuple #[x.1.val, .agg (Dat.enc x.2).toArray]) (fun x => r = (x.1.l, x.2.pl)) (fun x => x.2.m) (fun x => Sv.own x.1 5) := by
 refine Ct.of Tryz.func37 rfl (by kernel_rfl) Tryz.ntmps37 (by simp) fun c => ?_
 unfold Sh.rectoref14_Encode at hS
 refine Zq (Zr ?_)
 refine Za ?_
 refine VL.alloc (cs := [.slice none 0 0, i64 0]) (by kernel_rfl) (by decide) fun b3_1 => ?_
 refine Zl ?_
 refine Zq (Zr ?_)
 refine Zm ?_
 obtain ⟨y8_2, ey8_2, hS⟩ := bd_s hS
 refine VL.callF (rectoref14_CheckIndex_ct l_0 ey8_2) rfl (by decide) ?_
 rintro q8_2_0 rfl
 try dsimp only
 refine VL.alloc (cs := [.slice none 0 0, i64 0]) (by kernel_rfl) (by decide) fun b4_3 => ?_
 refine VL.store (vc := [q8_2_0.parts.val, i64 q8_2_0.err]) (cs' := [q8_2_0.parts.val, i64 q8_2_0.err]) rfl rfl rfl gsz54 rfl rfl (Nat.le_of_ble_eq_true rfl) rfl ?_
 refine Zl ?_
 refine Zq (Zq (Zr ?_))
 refine VL.q (q_field gfa54_1 rfl) (by decide) ?_
 refine VL.q (q_fe gone3 rfl rfl) (by decide) ?_
 refine VL.q (q_neq rfl rfl) (by decide) ?_
 refine Zl ?_
 refine VC.cond_ndec rfl (fun h11 => ?_) (fun h11 => ?_)
 ·
  replace hS := it_f h11 hS
  refine Zq ?_
  refine VC.draw [(0, true), (1, true), (2, false)] mixed (by kernel_rfl) (by kernel_rfl) (by kernel_rfl) ?_
  refine VD.q rfl (q_fes gagg54 rfl rfl) (by decide) ?_
  refine VD.q rfl (q_assign rfl) (by decide) ?_
  refine VD.one rfl ?_
  refine VL.store (vc := [q8_2_0.parts.val, i64 q8_2_0.err]) (cs' := [q8_2_0.parts.val, i64 q8_2_0.err]) rfl rfl rfl gsz54 rfl rfl (Nat.le_of_ble_eq_true rfl) rfl ?_
  refine VL.back (D' := []) (by kernel_rfl) (Pend.nil) ?_
  refine VD.to (fun _ _ h => h) ?_
  refine VC.nilO (⟨none, 0, []⟩ : Sv UInt8) 5 ⟨rfl, rfl⟩ ?_
  cases hS
  exact VC.ret (finG (vs := [.slice none 0 0, .agg #[q8_2_0.parts.val, i64 q8_2_0.err]]) (.inr rfl) rfl (RVs.tmp rfl (RVs.cell gagg54 rfl rfl Rd.blk (RVs.nil))) (⟨none, 0, []⟩, ⟨q8_2_0.parts, q8_2_0.err⟩) rfl rfl (by (try dsimp only); exact InM.out) (by (try dsimp only); exact EntO.out))
 replace hS := it_t h11 hS
 refine Zk ?_
 refine Zq (Zr ?_)
 refine Zm ?_
 refine VL.q (q_ln (s := l_0) Tryz.underlying68 rfl) (by decide) ?_
 obtain ⟨y15_4, ey15_4, hS⟩ := bd_s hS
 refine VL.callO (rectoref3_Int_ct (l_0.l.length : Int) ey15_4) rfl (by decide) ?_
 rintro q15_4_0 rfl
 try dsimp only
 refine Za ?_
 refine Zl ?_
 refine VC.keep [0, 3, 4, 5] rfl ?_
 refine Zq (Zq (Zr ?_))
 refine Za ?_
 refine Zl ?_
 refine Zb ?_
 refine VC.iter (S := Sv UInt8 × Int) (fun sg => (sg.1.l, sg.2)) (fun sg => [(0, l_0.val), (3, ptr b3_1 0), (4, ptr b4_3 0), (5, sg.1.val), (6, i64 sg.2)]) (fun sg => Mo.tt) (fun sg => Ow.star (Blk b4_3 [q8_2_0.parts.val, i64 q8_2_0.err] 54) (Ow.star (Blk b3_1 [.slice none 0 0, i64 0] 54) (Ow.star (Sv.own sg.1 5) (Ow.emp)))) (q15_4_0, 0) [0, 3, 4, 5, 6] hS rfl ?_
 clear hS
 rintro ⟨b5_5, i6_6⟩ m1 y1 hS hK1
 show VC _ _ _ _ _ [(0, l_0.val), (3, ptr b3_1 0), (4, ptr b4_3 0), (5, b5_5.val), (6, i64 i6_6)] (Mo.and Mo.tt _) (Ow.star (Blk b4_3 [q8_2_0.parts.val, i64 q8_2_0.err] 54) (Ow.star (Blk b3_1 [.slice none 0 0, i64 0] 54) (Ow.star (Sv.own b5_5 5) (Ow.emp))))
 refine Zq (Zq (Zr ?_))
 refine Zm ?_
 refine Zm ?_
 refine VL.q (q_ln (s := l_0) Tryz.underlying68 rfl) (by decide) ?_
 refine VL.q (q_lss rfl rfl) (by decide) ?_
 refine Zl ?_
 refine VC.cond_dec rfl (fun h19 => ?_) (fun h19 => ?_)
 ·
  replace hS := it_t h19 hS
  refine Zk ?_
  refine Zq (Zb (Zq (Zr ?_)))
  refine Zm ?_
  refine Zm ?_
  refine Zm ?_
  obtain ⟨z25_7, nz25_7, hz25_7, hS⟩ := at_s hS
  refine VL.q (q_ixm (s := l_0) Tryz.underlying68 gsz152 rfl rfl nz25_7 (lt_of_get nz25_7 hz25_7)) (by decide) ?_
  refine VL.q (q_field gfa152_0 rfl) (by decide) ?_
  refine VL.q (q_elf (s := l_0) gone9 rfl hz25_7 rfl) (by decide) ?_
  obtain ⟨y28_8, ey28_8, hS⟩ := bd_s hS
  refine VL.callO (rectoref3_Text_ct z25_7.path ey28_8) rfl (by decide) ?_
  rintro q28_8_0 rfl
  try dsimp only
  refine VL.shut q28_8_0 5 (fun _ _ _ _ => trivial) ?_
  obtain ⟨b29, hS⟩ := gd_s hS
  refine VL.app (s := b5_5) (r := q28_8_0) Tryz.underlying27 gapp5 (by decide) rfl Fo.out (ap1 b29) (ap2 b29 (by decide)) (by decide) (fun s29_9 hs29_9 => ?_)
  replace hS := lt_to hs29_9 hS
  refine Za ?_
  refine Zl ?_
  refine VC.keep [0, 3, 4, 5, 6] rfl ?_
  refine Zq (Zr ?_)
  refine Zm ?_
  refine Zm ?_
  refine Zm ?_
  obtain ⟨z33_11, nz33_11, hz33_11, hS⟩ := at_s hS
  refine VL.q (q_ixm (s := l_0) Tryz.underlying68 gsz152 rfl rfl nz33_11 (lt_of_get nz33_11 hz33_11)) (by decide) ?_
  refine VL.q (q_field gfa152_1 rfl) (by decide) ?_
  refine VL.q (q_elf (s := l_0) gone3 rfl hz33_11 rfl) (by decide) ?_
  obtain ⟨y36_12, ey36_12, hS⟩ := bd_s hS
  refine VL.callO (rectoref3_Int_ct z33_11.stage ey36_12) rfl (by decide) ?_
  rintro q36_12_0 rfl
  try dsimp only
  refine VL.shut q36_12_0 5 (fun _ _ _ _ => trivial) ?_
  obtain ⟨b37, hS⟩ := gd_s hS
  refine VL.app (s := s29_9) (r := q36_12_0) Tryz.underlying27 gapp5 (by decide) rfl Fo.out (ap1 b37) (ap2 b37 (by decide)) (by decide) (fun s37_13 hs37_13 => ?_)
  replace hS := lt_to hs37_13 hS
  refine Za ?_
  refine Zl ?_
  refine VC.keep [0, 3, 4, 5, 6] rfl ?_
  refine Zq (Zr ?_)
  refine Zm ?_
  refine Zm ?_
  refine Zm ?_
  obtain ⟨z41_15, nz41_15, hz41_15, hS⟩ := at_s hS
  refine VL.q (q_ixm (s := l_0) Tryz.underlying68 gsz152 rfl rfl nz41_15 (lt_of_get nz41_15 hz41_15)) (by decide) ?_
  refine VL.q (q_field gfa152_2 rfl) (by decide) ?_
  refine VL.q (q_elf (s := l_0) gone3 rfl hz41_15 rfl) (by decide) ?_
  obtain ⟨y44_16, ey44_16, hS⟩ := bd_s hS
  refine VL.callO (rectoref3_Int_ct z41_15.mode ey44_16) rfl (by decide) ?_
  rintro q44_16_0 rfl
  try dsimp only
  refine VL.shut q44_16_0 5 (fun _ _ _ _ => trivial) ?_
  obtain ⟨b45, hS⟩ := gd_s hS
  refine VL.app (s := s37_13) (r := q44_16_0) Tryz.underlying27 gapp5 (by decide) rfl Fo.out (ap1 b45) (ap2 b45 (by decide)) (by decide) (fun s45_17 hs45_17 => ?_)
  replace hS := lt_to hs45_17 hS
  refine Za ?_
  refine Zl ?_
  refine VC.keep [0, 3, 4, 5, 6] rfl ?_
  refine Zq (Zr ?_)
  refine Zm ?_
  refine Zm ?_
  refine Zm ?_
  obtain ⟨z49_19, nz49_19, hz49_19, hS⟩ := at_s hS
  refine VL.q (q_ixm (s := l_0) Tryz.underlying68 gsz152 rfl rfl nz49_19 (lt_of_get nz49_19 hz49_19)) (by decide) ?_
  refine VL.q (q_field gfa152_3 rfl) (by decide) ?_
  refine VL.q (q_elf (s := l_0) gone9 rfl hz49_19 rfl) (by decide) ?_
  obtain ⟨y52_20, ey52_20, hS⟩ := bd_s hS
  refine VL.callO (rectoref3_Text_ct z49_19.data ey52_20) rfl (by decide) ?_
  rintro q52_20_0 rfl
  try dsimp only
  refine VL.shut q52_20_0 5 (fun _ _ _ _ => trivial) ?_
  obtain ⟨b53, hS⟩ := gd_s hS
  refine VL.app (s := s45_17) (r := q52_20_0) Tryz.underlying27 gapp5 (by decide) rfl Fo.out (ap1 b53) (ap2 b53 (by decide)) (by decide) (fun s53_21 hs53_21 => ?_)
  replace hS := lt_to hs53_21 hS
  refine Za ?_
  refine Zl ?_
  refine VC.keep [0, 3, 4, 5, 6] rfl ?_
  refine Zq (Zr ?_)
  refine Zm ?_
  refine Zm ?_
  refine Zm ?_
  obtain ⟨z57_23, nz57_23, hz57_23, hS⟩ := at_s hS
  refine VL.q (q_ixm (s := l_0) Tryz.underlying68 gsz152 rfl rfl nz57_23 (lt_of_get nz57_23 hz57_23)) (by decide) ?_
  refine VL.q (q_field gfa152_4 rfl) (by decide) ?_
  refine VL.q (q_elf (s := l_0) gone3 rfl hz57_23 rfl) (by decide) ?_
  obtain ⟨y60_24, ey60_24, hS⟩ := bd_s hS
  refine VL.callO (rectoref3_Int_ct z57_23.time ey60_24) rfl (by decide) ?_
  rintro q60_24_0 rfl
  try dsimp only
  refine VL.shut q60_24_0 5 (fun _ _ _ _ => trivial) ?_
  obtain ⟨b61, hS⟩ := gd_s hS
  refine VL.app (s := s53_21) (r := q60_24_0) Tryz.underlying27 gapp5 (by decide) rfl Fo.out (ap1 b61) (ap2 b61 (by decide)) (by decide) (fun s61_25 hs61_25 => ?_)
  replace hS := lt_to hs61_25 hS
  refine Za ?_
  refine Zl ?_
  refine VC.keep [0, 3, 4, 5, 6] rfl ?_
  refine Zr ?_
  refine Zm ?_
  refine Zm ?_
  refine Zm ?_
  obtain ⟨z65_27, nz65_27, hz65_27, hS⟩ := at_s hS
  refine VL.q (q_ixm (s := l_0) Tryz.underlying68 gsz152 rfl rfl nz65_27 (lt_of_get nz65_27 hz65_27)) (by decide) ?_
  refine VL.q (q_field gfa152_5 rfl) (by decide) ?_
  refine VL.q (q_elf (s := l_0) gone3 rfl hz65_27 rfl) (by decide) ?_
  obtain ⟨y68_28, ey68_28, hS⟩ := bd_s hS
  refine VL.callO (rectoref3_Int_ct z65_27.size ey68_28) rfl (by decide) ?_
  rintro q68_28_0 rfl
  try dsimp only
  refine VL.shut q68_28_0 5 (fun _ _ _ _ => trivial) ?_
  obtain ⟨b69, hS⟩ := gd_s hS
  refine VL.app (s := s61_25) (r := q68_28_0) Tryz.underlying27 gapp5 (by decide) rfl Fo.out (ap1 b69) (ap2 b69 (by decide)) (by decide) (fun s69_29 hs69_29 => ?_)
  replace hS := lt_to hs69_29 hS
  refine Za ?_
  refine Zl ?_
  refine VC.keep [0, 3, 4, 5, 6] rfl ?_
  refine Zr ?_
  refine Zm ?_
  obtain ⟨b21, hS⟩ := gd_s hS
  refine VL.q (q_add rfl rfl b21) (by decide) ?_
  refine Za ?_
  refine VL.rnd (s69_29, (i6_6 + 1)) [0, 3, 4, 5, 6] (fun _ _ h => h) (go2 hS hK1) rfl
 replace hS := it_f h19 hS
 replace hS := up2 hS hK1
 refine Zx ?_
 refine Zq ?_
 refine VC.draw [(0, true), (2, true), (1, false), (3, true), (4, false)] mixed (by kernel_rfl) (by kernel_rfl) (by kernel_rfl) ?_
 refine VD.q rfl (q_move rfl) (by decide) ?_
 refine VD.q rfl (q_fes gagg54 rfl rfl) (by decide) ?_
 refine VD.one rfl ?_
 obtain ⟨y71_31, ey71_31, hS⟩ := bd_s hS
 refine VL.callOR (rectoref3_Put_ct b5_5 ey71_31) rfl (by decide) ?_
 rintro q71_31_0 rfl
 try dsimp only
 refine VL.back (D' := [(2, .agg #[q8_2_0.parts.val, i64 q8_2_0.err])]) (by kernel_rfl) (Pend.cons rfl (q_fes gagg54 rfl rfl) (Pend.nil)) ?_
 refine VD.q rfl (q_assign rfl) (by decide) ?_
 refine VD.one rfl ?_
 refine VL.store (vc := [q8_2_0.parts.val, i64 q8_2_0.err]) (cs' := [q8_2_0.parts.val, i64 q8_2_0.err]) rfl rfl rfl gsz54 rfl rfl (Nat.le_of_ble_eq_true rfl) rfl ?_
 refine VL.back (D' := []) (by kernel_rfl) (Pend.nil) ?_
 refine VD.to (fun _ _ h => h) ?_
 refine VC.keep [3, 2] rfl ?_
 cases hS
 exact VC.ret (finG (vs := [q71_31_0.val, .agg #[q8_2_0.parts.val, i64 q8_2_0.err]]) (.inr rfl) rfl (RVs.tmp rfl (RVs.cell gagg54 rfl rfl Rd.blk (RVs.nil))) (q71_31_0, ⟨q8_2_0.parts, q8_2_0.err⟩) rfl rfl (by (try dsimp only); exact InM.out) (by (try dsimp only); exact EntO.out))
theorem api_Errno_Error_ct (e_0 : Int) {r : Str} (hS : Sh.api_Errno_Error e_0 = some r) :
 Ct Tryz.prog 340 [i64 e_0] Mo.tt (Ow.emp) (X := Unit) (fun _ => str r) (fun _ => True) (fun _ => Mo.tt) (fun _ => Ow.emp) := by
 refine Ct.of Tryz.func340 rfl (by kernel_rfl) Tryz.ntmps340 (by simp) fun c => ?_
 unfold Sh.api_Errno_Error at hS
 refine Zq (Zr ?_)
 refine Za ?_
 refine Zl ?_
 refine Zq (Zq (Zr ?_))
 refine Zm ?_
 refine Zl ?_
 refine Zb (Zq (Zr ?_))
 refine VL.q (q_eql rfl rfl) (by decide) ?_
 refine Za ?_
 refine Zl ?_
 refine VC.cond_dec rfl (fun h4 => ?_) (fun h4 => ?_)
 ·
  replace hS := it_t h4 hS
  refine Zq (Zr ?_)
  refine Za ?_
  refine Zl ?_
  cases hS
  exact Ze
 replace hS := it_f h4 hS
 refine Zq (Zr ?_)
 refine VL.q (q_eql rfl rfl) (by decide) ?_
 refine Za ?_
 refine Zl ?_
 refine VC.cond_dec rfl (fun h6 => ?_) (fun h6 => ?_)
 ·
  replace hS := it_t h6 hS
  refine Zq (Zr ?_)
  refine Za ?_
  refine Zl ?_
  cases hS
  exact Ze
 replace hS := it_f h6 hS
 refine Zq (Zr ?_)
 refine VL.q (q_eql rfl rfl) (by decide) ?_
 refine Za ?_
 refine Zl ?_
 refine VC.cond_dec rfl (fun h8 => ?_) (fun h8 => ?_)
 ·
  replace hS := it_t h8 hS
  refine Zq (Zr ?_)
  refine Za ?_
  refine Zl ?_
  cases hS
  exact Ze
 replace hS := it_f h8 hS
 refine Zq (Zr ?_)
 refine VL.q (q_eql rfl rfl) (by decide) ?_
 refine Za ?_
 refine Zl ?_
 refine VC.keep [3, 10] rfl ?_
 refine VC.cond_dec rfl (fun h10 => ?_) (fun h10 => ?_)
 ·
  replace hS := it_t h10 hS
  refine Zq (Zr ?_)
  refine Za ?_
  refine Zl ?_
  cases hS
  exact Ze
 replace hS := it_f h10 hS
 refine Zq (Zr ?_)
 refine VL.q (q_eql rfl rfl) (by decide) ?_
 refine Za ?_
 refine Zl ?_
 refine VC.cond_dec rfl (fun h12 => ?_) (fun h12 => ?_)
 ·
  replace hS := it_t h12 hS
  refine Zq (Zr ?_)
  refine Za ?_
  refine Zl ?_
  cases hS
  exact Ze
 replace hS := it_f h12 hS
 refine Zq (Zr ?_)
 refine VL.q (q_eql rfl rfl) (by decide) ?_
 refine Za ?_
 refine Zl ?_
 refine VC.cond_dec rfl (fun h14 => ?_) (fun h14 => ?_)
 ·
  replace hS := it_t h14 hS
  refine Zq (Zr ?_)
  refine Za ?_
  refine Zl ?_
  cases hS
  exact Ze
 replace hS := it_f h14 hS
 refine Zq (Zr ?_)
 refine VL.q (q_eql rfl rfl) (by decide) ?_
 refine Za ?_
 refine Zl ?_
 refine VC.cond_dec rfl (fun h16 => ?_) (fun h16 => ?_)
 ·
  replace hS := it_t h16 hS
  refine Zq (Zr ?_)
  refine Za ?_
  refine Zl ?_
  cases hS
  exact Ze
 replace hS := it_f h16 hS
 refine Zq (Zr ?_)
 refine VL.q (q_eql rfl rfl) (by decide) ?_
 refine Za ?_
 refine Zl ?_
 refine VC.cond_dec rfl (fun h18 => ?_) (fun h18 => ?_)
 ·
  replace hS := it_t h18 hS
  refine Zq (Zr ?_)
  refine Za ?_
  refine Zl ?_
  refine VC.keep [2] rfl ?_
  cases hS
  exact Ze
 replace hS := it_f h18 hS
 refine Zq (Zr ?_)
 refine VL.q (q_eql rfl rfl) (by decide) ?_
 refine Za ?_
 refine Zl ?_
 refine VC.keep [3, 20] rfl ?_
 refine VC.cond_dec rfl (fun h20 => ?_) (fun h20 => ?_)
 ·
  replace hS := it_t h20 hS
  refine Zq (Zr ?_)
  refine Za ?_
  refine Zl ?_
  cases hS
  exact Ze
 replace hS := it_f h20 hS
 refine Zq (Zr ?_)
 refine VL.q (q_eql rfl rfl) (by decide) ?_
 refine Za ?_
 refine Zl ?_
 refine VC.cond_dec rfl (fun h22 => ?_) (fun h22 => ?_)
 ·
  replace hS := it_t h22 hS
  refine Zq (Zr ?_)
  refine Za ?_
  refine Zl ?_
  cases hS
  exact Ze
 replace hS := it_f h22 hS
 refine Zq (Zr ?_)
 refine VL.q (q_eql rfl rfl) (by decide) ?_
 refine Za ?_
 refine Zl ?_
 refine VC.cond_dec rfl (fun h24 => ?_) (fun h24 => ?_)
 ·
  replace hS := it_t h24 hS
  refine Zq (Zr ?_)
  refine Za ?_
  refine Zl ?_
  cases hS
  exact Ze
 replace hS := it_f h24 hS
 refine Zq (Zr ?_)
 refine VL.q (q_eql rfl rfl) (by decide) ?_
 refine Za ?_
 refine Zl ?_
 refine VC.cond_dec rfl (fun h26 => ?_) (fun h26 => ?_)
 ·
  replace hS := it_t h26 hS
  refine Zq (Zr ?_)
  refine Za ?_
  refine Zl ?_
  cases hS
  exact Ze
 replace hS := it_f h26 hS
 refine Zq (Zr ?_)
 refine VL.q (q_eql rfl rfl) (by decide) ?_
 refine Za ?_
 refine Zl ?_
 refine VC.cond_dec rfl (fun h28 => ?_) (fun h28 => ?_)
 ·
  replace hS := it_t h28 hS
  refine Zq (Zr ?_)
  refine Za ?_
  refine Zl ?_
  refine VC.keep [2] rfl ?_
  cases hS
  exact Ze
 replace hS := it_f h28 hS
 refine Zq (Zr ?_)
 refine VL.q (q_eql rfl rfl) (by decide) ?_
 refine Za ?_
 refine Zl ?_
 refine VC.keep [3, 30] rfl ?_
 refine VC.cond_dec rfl (fun h30 => ?_) (fun h30 => ?_)
 ·
  replace hS := it_t h30 hS
  refine Zq (Zr ?_)
  refine Za ?_
  refine Zl ?_
  cases hS
  exact Ze
 replace hS := it_f h30 hS
 refine Zq (Zr ?_)
 refine VL.q (q_eql rfl rfl) (by decide) ?_
 refine Za ?_
 refine Zl ?_
 refine VC.cond_dec rfl (fun h32 => ?_) (fun h32 => ?_)
 ·
  replace hS := it_t h32 hS
  refine Zq (Zr ?_)
  refine Za ?_
  refine Zl ?_
  cases hS
  exact Ze
 replace hS := it_f h32 hS
 refine Zk ?_
 refine Zq (Zr ?_)
 refine Za ?_
 refine Zl ?_
 cases hS
 exact Ze
theorem internal_strconv_small_ct (i_0 : Int) {r : Str} (hS : Sh.internal_strconv_small i_0 = some r) :
 Ct Tryz.prog 330 [i64 i_0] Mo.tt (Ow.emp) (X := Unit) (fun _ => str r) (fun _ => True) (fun _ => Mo.tt) (fun _ => Ow.emp) := by
 refine Ct.of Tryz.func330 rfl (by kernel_rfl) Tryz.ntmps330 (by simp) fun c => ?_
 unfold Sh.internal_strconv_small at hS
 refine Zq (Zr ?_)
 refine Za ?_
 refine Zl ?_
 refine Zq (Zq (Zr ?_))
 refine Zm ?_
 refine VL.q (q_lss rfl rfl) (by decide) ?_
 refine Zl ?_
 refine VC.cond_dec rfl (fun h4 => ?_) (fun h4 => ?_)
 ·
  replace hS := it_t h4 hS
  refine Zq (Zr ?_)
  refine Zm ?_
  refine Zm ?_
  obtain ⟨b7, hS⟩ := gd_s hS
  refine VL.q (q_add rfl rfl b7) (by decide) ?_
  obtain ⟨b8, hS⟩ := gd_s hS
  obtain ⟨y8_1, ey8_1, hS⟩ := lt_s hS
  refine VL.q (q_smidE Tryz.underlying9 rfl rfl rfl b8.1 b8.2.1 b8.2.2 ey8_1) (by decide) ?_
  refine Za ?_
  refine Zl ?_
  cases hS
  exact Ze
 replace hS := it_f h4 hS
 refine Zk ?_
 refine Zq (Zr ?_)
 refine Zm ?_
 obtain ⟨b10, hS⟩ := gd_s hS
 refine VL.q (q_mul rfl rfl b10) (by decide) ?_
 refine Zm ?_
 obtain ⟨b12, hS⟩ := gd_s hS
 refine VL.q (q_mul rfl rfl b12) (by decide) ?_
 obtain ⟨b13, hS⟩ := gd_s hS
 refine VL.q (q_add rfl rfl b13) (by decide) ?_
 obtain ⟨b14, hS⟩ := gd_s hS
 obtain ⟨y14_2, ey14_2, hS⟩ := lt_s hS
 refine VL.q (q_smidE Tryz.underlying9 rfl rfl rfl b14.1 b14.2.1 b14.2.2 ey14_2) (by decide) ?_
 refine Za ?_
 refine Zl ?_
 cases hS
 exact Ze
theorem internal_strconv_FormatInt_ct (i_0 : Int) (base_1 : Int) {r : Str} (hS : Sh.internal_strconv_FormatInt i_0 base_1 = some r) :
 Ct Tryz.prog 329 [i64 i_0, i64 base_1] Mo.tt (Ow.emp) (X := Unit) (fun _ => str r) (fun _ => True) (fun _ => Mo.tt) (fun _ => Ow.emp) := by
 refine Ct.of Tryz.func329 rfl (by kernel_rfl) Tryz.ntmps329 (by simp) fun c => ?_
 unfold Sh.internal_strconv_FormatInt at hS
 refine Zq (Zr ?_)
 refine Za ?_
 refine Zl ?_
 refine Zq (Zq (Zr ?_))
 refine Zm ?_
 refine VL.q (q_eql rfl rfl) (by decide) ?_
 refine Zl ?_
 refine VC.cond_dec rfl (fun h11 => ?_) (fun h11 => ?_)
 ·
  replace hS := it_t h11 hS
  refine Zq ?_
  refine VC.cutJ (S := Bool) (fun (x17_1 : Bool) => x17_1) (fun (x17_1 : Bool) => [(0, i64 i_0), (17, .bool x17_1)]) (fun (x17_1 : Bool) => Mo.tt) (fun (x17_1 : Bool) => Ow.emp) hS ?_ ?_
  ·
   clear hS
   intro k2 hS
   refine Zr ?_
   refine Zm ?_
   refine VL.q (q_leq rfl rfl) (by decide) ?_
   refine Zm ?_
   refine VL.split_dec 14 rfl (fun h14 => ?_) (fun h14 => ?_)
   ·
    replace hS := it_t h14 hS
    refine Zg ?_
    refine VL.gy rfl rfl (q_lss rfl rfl) (by decide) ?_
    refine Zt ?_
    refine VL.mt (decide (i_0 < 100)) [0, 17] (fun _ _ h => h) hS rfl
   replace hS := it_f h14 hS
   refine Zn ?_
   refine Zn ?_
   refine Zf ?_
   refine VL.mt false [0, 17] (fun _ _ h => h) hS rfl
  clear hS
  rintro x17_1 hS
  show VC _ _ _ _ _ [(0, i64 i_0), (17, .bool x17_1)] (Mo.and Mo.tt _) (Ow.emp)
  refine VC.cond rfl (fun h17 => ?_) (fun h17 => ?_)
  ·
   replace hS := it_t h17 hS
   refine Zq (Zr ?_)
   refine Zm ?_
   obtain ⟨y19_3, ey19_3, hS⟩ := bd_s hS
   refine VL.q (q_call (internal_strconv_small_ct i_0 ey19_3) rfl (fun _ _ => rfl)) (by decide) ?_
   refine Za ?_
   refine Zl ?_
   cases hS
   exact Ze
  replace hS := it_b h17 hS
  refine Zk ?_
  refine Zq (Zr ?_)
  cases hS
 replace hS := it_f h11 hS
 refine Zk ?_
 refine Zq (Zr ?_)
 refine Zm ?_
 refine VL.q (q_convW Tryz.underlying2 Tryz.underlying231 rfl) (by decide) ?_
 refine Zm ?_
 refine Zm ?_
 refine VL.q (q_lss rfl rfl) (by decide) ?_
 cases hS
theorem internal_strconv_Itoa_ct (i_0 : Int) {r : Str} (hS : Sh.internal_strconv_Itoa i_0 = some r) :
 Ct Tryz.prog 328 [i64 i_0] Mo.tt (Ow.emp) (X := Unit) (fun _ => str r) (fun _ => True) (fun _ => Mo.tt) (fun _ => Ow.emp) := by
 refine Ct.of Tryz.func328 rfl (by kernel_rfl) Tryz.ntmps328 (by simp) fun c => ?_
 unfold Sh.internal_strconv_Itoa at hS
 refine Zq (Zr ?_)
 refine Za ?_
 refine Zl ?_
 refine Zq (Zr ?_)
 refine Zm ?_
 obtain ⟨y4_1, ey4_1, hS⟩ := bd_s hS
 refine VL.q (q_call (internal_strconv_FormatInt_ct i_0 10 ey4_1) rfl (fun _ _ => rfl)) (by decide) ?_
 refine Za ?_
 refine Zl ?_
 cases hS
 exact Ze
theorem strconv_Itoa_ct (i_0 : Int) {r : Str} (hS : Sh.strconv_Itoa i_0 = some r) :
 Ct Tryz.prog 327 [i64 i_0] Mo.tt (Ow.emp) (X := Unit) (fun _ => str r) (fun _ => True) (fun _ => Mo.tt) (fun _ => Ow.emp) := by
 refine Ct.of Tryz.func327 rfl (by kernel_rfl) Tryz.ntmps327 (by simp) fun c => ?_
 unfold Sh.strconv_Itoa at hS
 refine Zq (Zr ?_)
 refine Za ?_
 refine Zl ?_
 refine Zq (Zr ?_)
 refine Zm ?_
 obtain ⟨y4_1, ey4_1, hS⟩ := bd_s hS
 refine VL.q (q_call (internal_strconv_Itoa_ct i_0 ey4_1) rfl (fun _ _ => rfl)) (by decide) ?_
 refine Za ?_
 refine Zl ?_
 cases hS
 exact Ze
theorem api_Fault_Error_ct (f_0_b : Nat) (f_0 : ApiFault) {E : Option Str} (ih : ∀ {y : Str}, E = some y → Says Tryz.prog f_0.err.val "Error" (f_0.err.ok.and Gl) (str y)) {r : Str} (hS : Sh.api_Fault_Error f_0.pl E = some r) :
 Ct Tryz.prog 325 [ptr f_0_b 0] (f_0.err.ok.and ((Cells f_0_b 0 [str f_0.part, i64 f_0.at_, f_0.err.val]).and Gl)) (Ow.emp) (X := Unit) (fun _ => str r) (fun _ => True) (fun _ => Mo.tt) (fun _ => Ow.emp) := by
 refine Ct.of Tryz.func325 rfl (by kernel_rfl) Tryz.ntmps325 (by simp) fun c => ?_
 unfold Sh.api_Fault_Error at hS
 refine Zq (Zr ?_)
 refine Za ?_
 refine Zl ?_
 refine Zq (Zq (Zr ?_))
 refine Zm ?_
 refine VL.q (q_nilCheck rfl) (by decide) ?_
 refine VL.q (q_field gfa117_2 rfl) (by decide) ?_
 refine VL.q (q_fm gone29 rfl rfl) (by decide) ?_
 refine VL.q (q_ereq Tryz.underlying29 rfl) (by decide) ?_
 refine Zl ?_
 refine VC.cond_dec rfl (fun h7 => ?_) (fun h7 => ?_)
 ·
  replace hS := it_t h7 hS
  refine Zq ?_
  refine VC.draw ((List.range 12).map fun k => (k, true)) mixed (by kernel_rfl) (by kernel_rfl) (by kernel_rfl) ?_
  refine VD.q rfl (q_move rfl) (by decide) ?_
  refine VD.q rfl (q_nilCheck rfl) (by decide) ?_
  refine VD.q rfl (q_field gfa117_0 rfl) (by decide) ?_
  refine VD.q rfl (q_fm gone9 rfl rfl) (by decide) ?_
  obtain ⟨b12, hS⟩ := gd_s hS
  obtain ⟨y12_1, ey12_1, hS⟩ := lt_s hS
  refine VD.q rfl (q_catE rfl rfl b12 ey12_1) (by decide) ?_
  refine VD.q rfl (q_move rfl) (by decide) ?_
  refine VD.q rfl (q_nilCheck rfl) (by decide) ?_
  refine VD.q rfl (q_field gfa117_1 rfl) (by decide) ?_
  refine VD.q rfl (q_fm gone3 rfl rfl) (by decide) ?_
  obtain ⟨y17_2, ey17_2, hS⟩ := bd_s hS
  refine VD.q rfl (q_call (strconv_Itoa_ct f_0.at_ ey17_2) rfl (fun _ _ => rfl)) (by decide) ?_
  obtain ⟨b18, hS⟩ := gd_s hS
  obtain ⟨y18_3, ey18_3, hS⟩ := lt_s hS
  refine VD.q rfl (q_catE rfl rfl b18 ey18_3) (by decide) ?_
  refine VD.q rfl (q_assign rfl) (by decide) ?_
  refine VD.to (fun _ _ h => h) ?_
  refine VC.keep [2] rfl ?_
  cases hS
  exact Ze
 replace hS := it_f h7 hS
 refine Zk ?_
 refine Zq ?_
 refine VC.draw ((List.range 19).map fun k => (k, true)) mixed (by kernel_rfl) (by kernel_rfl) (by kernel_rfl) ?_
 refine VD.q rfl (q_move rfl) (by decide) ?_
 refine VD.q rfl (q_nilCheck rfl) (by decide) ?_
 refine VD.q rfl (q_field gfa117_0 rfl) (by decide) ?_
 refine VD.q rfl (q_fm gone9 rfl rfl) (by decide) ?_
 obtain ⟨b23, hS⟩ := gd_s hS
 obtain ⟨y23_4, ey23_4, hS⟩ := lt_s hS
 refine VD.q rfl (q_catE rfl rfl b23 ey23_4) (by decide) ?_
 refine VD.q rfl (q_move rfl) (by decide) ?_
 refine VD.q rfl (q_nilCheck rfl) (by decide) ?_
 refine VD.q rfl (q_field gfa117_1 rfl) (by decide) ?_
 refine VD.q rfl (q_fm gone3 rfl rfl) (by decide) ?_
 obtain ⟨y28_5, ey28_5, hS⟩ := bd_s hS
 refine VD.q rfl (q_call (strconv_Itoa_ct f_0.at_ ey28_5) rfl (fun _ _ => rfl)) (by decide) ?_
 obtain ⟨b29, hS⟩ := gd_s hS
 obtain ⟨y29_6, ey29_6, hS⟩ := lt_s hS
 refine VD.q rfl (q_catE rfl rfl b29 ey29_6) (by decide) ?_
 obtain ⟨b30, hS⟩ := gd_s hS
 obtain ⟨y30_7, ey30_7, hS⟩ := lt_s hS
 refine VD.q rfl (q_catE rfl rfl b30 ey30_7) (by decide) ?_
 refine VD.q rfl (q_move rfl) (by decide) ?_
 refine VD.q rfl (q_nilCheck rfl) (by decide) ?_
 refine VD.q rfl (q_field gfa117_2 rfl) (by decide) ?_
 refine VD.q rfl (q_fm gone29 rfl rfl) (by decide) ?_
 obtain ⟨y35_8, ey35_8, hS⟩ := bd_s hS
 refine VD.q rfl (q_say rfl (ih ey35_8)) (by decide) ?_
 obtain ⟨b36, hS⟩ := gd_s hS
 obtain ⟨y36_9, ey36_9, hS⟩ := lt_s hS
 refine VD.q rfl (q_catE rfl rfl b36 ey36_9) (by decide) ?_
 refine VD.q rfl (q_assign rfl) (by decide) ?_
 refine VD.to (fun _ _ h => h) ?_
 refine VC.keep [2] rfl ?_
 cases hS
 exact Ze
theorem fault_me (v : Value) : Meth Tryz.prog (.iface 114 v) "Error" 325 v := Meth.of fun w => by kernel_rfl
theorem errno_me (v : Value) : Meth Tryz.prog (.iface 115 v) "Error" 340 v := Meth.of fun w => by kernel_rfl
theorem text_says : ∀ (z : Er) {r : Str} (h : Sh.erText z.pl = some r), Says Tryz.prog z.val "Error" (z.ok.and Gl) (str r)
  | .nil, r, h => by cases h
  | .no n, r, h => ⟨340, i64 n, errno_me _, (api_Errno_Error_ct n h).weak (fun _ _ => trivial) (fun _ q => q)⟩
  | .fault b p a e, r, h => ⟨325, ptr b 0, fault_me _, (api_Fault_Error_ct b ⟨p, a, e⟩ (E := Sh.erText e.pl) (fun q => text_says e q) h).weak (fun _ m => ⟨m.1.2, m.1.1, m.2⟩) (fun _ q => q)⟩
theorem rectoref3_Decimal_r_ct (n_0 : Int) {r : Str} (hS : Sh.rectoref3_Decimal_r n_0 = some r) :
 Ct Tryz.prog 133 [i64 n_0] Mo.tt (Ow.emp) (X := Unit) (fun _ => str r) (fun _ => True) (fun _ => Mo.tt) (fun _ => Ow.emp) := by
 refine Ct.of Tryz.func133 rfl (by kernel_rfl) Tryz.ntmps133 (by simp) fun c => ?_
 unfold Sh.rectoref3_Decimal_r at hS
 refine Zq (Zr ?_)
 refine Za ?_
 refine Zl ?_
 refine Zq (Zq (Zr ?_))
 refine Zm ?_
 refine VL.q (q_lss rfl rfl) (by decide) ?_
 refine Zl ?_
 refine VC.cond_dec rfl (fun h5 => ?_) (fun h5 => ?_)
 ·
  replace hS := it_t h5 hS
  refine Zq (Zq (Zr ?_))
  refine Zm ?_
  refine VL.q (q_eql rfl rfl) (by decide) ?_
  refine Zl ?_
  refine VC.cond_dec rfl (fun h7 => ?_) (fun h7 => ?_)
  ·
   replace hS := it_t h7 hS
   refine Zq (Zr ?_)
   refine Za ?_
   refine Zl ?_
   cases hS
   exact Ze
  replace hS := it_f h7 hS
  refine Zk ?_
  refine Zq (Zr ?_)
  refine Zm ?_
  obtain ⟨b9, hS⟩ := gd_s hS
  refine VL.q (q_sub rfl rfl b9) (by decide) ?_
  cases hS
 replace hS := it_f h5 hS
 refine Zk ?_
 refine Zq (Zr ?_)
 refine Zm ?_
 obtain ⟨b13, hS⟩ := gd_s hS
 refine VL.q (q_rem rfl rfl b13) (by decide) ?_
 obtain ⟨b14, hS⟩ := gd_s hS
 refine VL.q (q_add rfl rfl b14) (by decide) ?_
 obtain ⟨b15, hS⟩ := gd_s hS
 refine VL.q (q_conv Tryz.underlying3 Tryz.underlying5 rfl (wu8_in b15)) (by decide) ?_
 obtain ⟨b16_15, hS⟩ := gd_s hS
 obtain ⟨u16_2, eu16_2, hS⟩ := lt_s hS
 refine VL.setv 15 rfl (congrArg (Value.int .u8) (u8_z b16_15 eu16_2)) ?_
 refine VL.lit (α := UInt8) (xs := [.tmp 15]) (vs := [.int .u8 (u16_2.toNat : Int)]) [u16_2] Tryz.underlying27 glit5 (by decide) rfl rfl rfl rfl (by decide) (fun _ _ _ _ => trivial) (by decide) (fun s16_1 hs16_1 => ?_) (by decide)
 replace hS := lt_to hs16_1 hS
 refine VL.q (q_b2s (s := s16_1) Tryz.underlying27 Tryz.underlying5 Tryz.underlying9 rfl) (by decide) ?_
 refine Za ?_
 refine Zl ?_
 refine VC.keep [0, 3] rfl ?_
 refine Zq (Zb ?_)
 refine VC.iter (S := Int × Str) (fun sg => (sg.1, sg.2)) (fun sg => [(0, i64 sg.1), (3, str sg.2)]) (fun sg => Mo.tt) (fun sg => Ow.emp) (n_0, s16_1.l) [0, 3] hS rfl ?_
 clear hS
 rintro ⟨n0_4, s3_5⟩ m1 y1 hS hK1
 show VC _ _ _ _ _ [(0, i64 n0_4), (3, str s3_5)] (Mo.and Mo.tt _) (Ow.emp)
 refine Zq (Zq (Zr ?_))
 refine Zm ?_
 refine VL.q (q_geq rfl rfl) (by decide) ?_
 refine Zl ?_
 refine VC.cond_dec rfl (fun h19 => ?_) (fun h19 => ?_)
 ·
  replace hS := it_t h19 hS
  refine Zk ?_
  refine Zb (Zq (Zr ?_))
  refine Zm ?_
  obtain ⟨b21, hS⟩ := gd_s hS
  refine VL.q (q_quo rfl rfl b21.1 (wi64_in b21.2)) (by decide) ?_
  refine Za ?_
  refine Zl ?_
  refine Zr ?_
  refine Zm ?_
  obtain ⟨b23, hS⟩ := gd_s hS
  refine VL.q (q_rem rfl rfl b23) (by decide) ?_
  obtain ⟨b24, hS⟩ := gd_s hS
  refine VL.q (q_add rfl rfl b24) (by decide) ?_
  obtain ⟨b25, hS⟩ := gd_s hS
  refine VL.q (q_conv Tryz.underlying3 Tryz.underlying5 rfl (wu8_in b25)) (by decide) ?_
  obtain ⟨b26_25, hS⟩ := gd_s hS
  obtain ⟨u26_7, eu26_7, hS⟩ := lt_s hS
  refine VL.setv 25 rfl (congrArg (Value.int .u8) (u8_z b26_25 eu26_7)) ?_
  refine VL.lit (α := UInt8) (xs := [.tmp 25]) (vs := [.int .u8 (u26_7.toNat : Int)]) [u26_7] Tryz.underlying27 glit5 (by decide) rfl rfl rfl rfl (by decide) (fun _ _ _ _ => trivial) (by decide) (fun s26_6 hs26_6 => ?_) (by decide)
  replace hS := lt_to hs26_6 hS
  refine VL.q (q_b2s (s := s26_6) Tryz.underlying27 Tryz.underlying5 Tryz.underlying9 rfl) (by decide) ?_
  refine Zm ?_
  obtain ⟨b29, hS⟩ := gd_s hS
  obtain ⟨y29_9, ey29_9, hS⟩ := lt_s hS
  refine VL.q (q_catE rfl rfl b29 ey29_9) (by decide) ?_
  refine Za ?_
  refine VL.rnd ((n0_4 / 10), y29_9) [0, 3] (fun _ _ h => h) (go2 hS hK1) rfl
 replace hS := it_f h19 hS
 replace hS := up2 hS hK1
 refine Zx ?_
 refine Zq (Zr ?_)
 refine Zm ?_
 refine Za ?_
 refine Zl ?_
 cases hS
 exact Ze
theorem rectoref3_Decimal_ct (n_0 : Int) {r : Str} (hS : Sh.rectoref3_Decimal n_0 = some r) :
 Ct Tryz.prog 133 [i64 n_0] Mo.tt (Ow.emp) (X := Unit) (fun _ => str r) (fun _ => True) (fun _ => Mo.tt) (fun _ => Ow.emp) := by
 refine Ct.of Tryz.func133 rfl (by kernel_rfl) Tryz.ntmps133 (by simp) fun c => ?_
 unfold Sh.rectoref3_Decimal at hS
 refine Zq (Zr ?_)
 refine Za ?_
 refine Zl ?_
 refine Zq (Zq (Zr ?_))
 refine Zm ?_
 refine VL.q (q_lss rfl rfl) (by decide) ?_
 refine Zl ?_
 refine VC.cond_dec rfl (fun h5 => ?_) (fun h5 => ?_)
 ·
  replace hS := it_t h5 hS
  refine Zq (Zq (Zr ?_))
  refine Zm ?_
  refine VL.q (q_eql rfl rfl) (by decide) ?_
  refine Zl ?_
  refine VC.cond_dec rfl (fun h7 => ?_) (fun h7 => ?_)
  ·
   replace hS := it_t h7 hS
   refine Zq (Zr ?_)
   refine Za ?_
   refine Zl ?_
   cases hS
   exact Ze
  replace hS := it_f h7 hS
  refine Zk ?_
  refine Zq (Zr ?_)
  refine Zm ?_
  obtain ⟨b9, hS⟩ := gd_s hS
  refine VL.q (q_sub rfl rfl b9) (by decide) ?_
  obtain ⟨y10_1, ey10_1, hS⟩ := bd_s hS
  refine VL.q (q_call (rectoref3_Decimal_r_ct (0 - n_0) ey10_1) rfl (fun _ _ => rfl)) (by decide) ?_
  obtain ⟨b11, hS⟩ := gd_s hS
  obtain ⟨y11_2, ey11_2, hS⟩ := lt_s hS
  refine VL.q (q_catE rfl rfl b11 ey11_2) (by decide) ?_
  refine Za ?_
  refine Zl ?_
  cases hS
  exact Ze
 replace hS := it_f h5 hS
 refine Zk ?_
 refine Zq (Zr ?_)
 refine Zm ?_
 obtain ⟨b13, hS⟩ := gd_s hS
 refine VL.q (q_rem rfl rfl b13) (by decide) ?_
 obtain ⟨b14, hS⟩ := gd_s hS
 refine VL.q (q_add rfl rfl b14) (by decide) ?_
 obtain ⟨b15, hS⟩ := gd_s hS
 refine VL.q (q_conv Tryz.underlying3 Tryz.underlying5 rfl (wu8_in b15)) (by decide) ?_
 obtain ⟨b16_15, hS⟩ := gd_s hS
 obtain ⟨u16_4, eu16_4, hS⟩ := lt_s hS
 refine VL.setv 15 rfl (congrArg (Value.int .u8) (u8_z b16_15 eu16_4)) ?_
 refine VL.lit (α := UInt8) (xs := [.tmp 15]) (vs := [.int .u8 (u16_4.toNat : Int)]) [u16_4] Tryz.underlying27 glit5 (by decide) rfl rfl rfl rfl (by decide) (fun _ _ _ _ => trivial) (by decide) (fun s16_3 hs16_3 => ?_) (by decide)
 replace hS := lt_to hs16_3 hS
 refine VL.q (q_b2s (s := s16_3) Tryz.underlying27 Tryz.underlying5 Tryz.underlying9 rfl) (by decide) ?_
 refine Za ?_
 refine Zl ?_
 refine VC.keep [0, 3] rfl ?_
 refine Zq (Zb ?_)
 refine VC.iter (S := Int × Str) (fun sg => (sg.1, sg.2)) (fun sg => [(0, i64 sg.1), (3, str sg.2)]) (fun sg => Mo.tt) (fun sg => Ow.emp) (n_0, s16_3.l) [0, 3] hS rfl ?_
 clear hS
 rintro ⟨n0_6, s3_7⟩ m1 y1 hS hK1
 show VC _ _ _ _ _ [(0, i64 n0_6), (3, str s3_7)] (Mo.and Mo.tt _) (Ow.emp)
 refine Zq (Zq (Zr ?_))
 refine Zm ?_
 refine VL.q (q_geq rfl rfl) (by decide) ?_
 refine Zl ?_
 refine VC.cond_dec rfl (fun h19 => ?_) (fun h19 => ?_)
 ·
  replace hS := it_t h19 hS
  refine Zk ?_
  refine Zb (Zq (Zr ?_))
  refine Zm ?_
  obtain ⟨b21, hS⟩ := gd_s hS
  refine VL.q (q_quo rfl rfl b21.1 (wi64_in b21.2)) (by decide) ?_
  refine Za ?_
  refine Zl ?_
  refine Zr ?_
  refine Zm ?_
  obtain ⟨b23, hS⟩ := gd_s hS
  refine VL.q (q_rem rfl rfl b23) (by decide) ?_
  obtain ⟨b24, hS⟩ := gd_s hS
  refine VL.q (q_add rfl rfl b24) (by decide) ?_
  obtain ⟨b25, hS⟩ := gd_s hS
  refine VL.q (q_conv Tryz.underlying3 Tryz.underlying5 rfl (wu8_in b25)) (by decide) ?_
  obtain ⟨b26_25, hS⟩ := gd_s hS
  obtain ⟨u26_9, eu26_9, hS⟩ := lt_s hS
  refine VL.setv 25 rfl (congrArg (Value.int .u8) (u8_z b26_25 eu26_9)) ?_
  refine VL.lit (α := UInt8) (xs := [.tmp 25]) (vs := [.int .u8 (u26_9.toNat : Int)]) [u26_9] Tryz.underlying27 glit5 (by decide) rfl rfl rfl rfl (by decide) (fun _ _ _ _ => trivial) (by decide) (fun s26_8 hs26_8 => ?_) (by decide)
  replace hS := lt_to hs26_8 hS
  refine VL.q (q_b2s (s := s26_8) Tryz.underlying27 Tryz.underlying5 Tryz.underlying9 rfl) (by decide) ?_
  refine Zm ?_
  obtain ⟨b29, hS⟩ := gd_s hS
  obtain ⟨y29_11, ey29_11, hS⟩ := lt_s hS
  refine VL.q (q_catE rfl rfl b29 ey29_11) (by decide) ?_
  refine Za ?_
  refine VL.rnd ((n0_6 / 10), y29_11) [0, 3] (fun _ _ h => h) (go2 hS hK1) rfl
 replace hS := it_f h19 hS
 replace hS := up2 hS hK1
 refine Zx ?_
 refine Zq (Zr ?_)
 refine Zm ?_
 refine Za ?_
 refine Zl ?_
 cases hS
 exact Ze
theorem rectoref3_Word_ct (e_0 : Int) {r : Str} (hS : Sh.rectoref3_Word e_0 = some r) :
 Ct Tryz.prog 134 [i64 e_0] Mo.tt (Ow.emp) (X := Unit) (fun _ => str r) (fun _ => True) (fun _ => Mo.tt) (fun _ => Ow.emp) := by
 refine Ct.of Tryz.func134 rfl (by kernel_rfl) Tryz.ntmps134 (by simp) fun c => ?_
 unfold Sh.rectoref3_Word at hS
 refine Zq (Zr ?_)
 refine Za ?_
 refine Zl ?_
 refine Zq (Zr ?_)
 refine VL.lit (α := Str) (xs := [.const (str [111, 107]), .const (str [97, 114, 103]), .const (str [102, 111, 114, 109]), .const (str [115, 104, 111, 114, 116]), .const (str [108, 111, 110, 103]), .const (str [110, 97, 109, 101]), .const (str [116, 119, 105, 99, 101]), .const (str [115, 116, 97, 116, 101]), .const (str [100, 105, 114, 116, 121]), .const (str [99, 111, 110, 102, 108, 105, 99, 116]), .const (str [115, 97, 109, 101]), .const (str [119, 97, 121]), .const (str [115, 117, 109]), .const (str [100, 111, 119, 110]), .const (str [113, 117, 111, 116, 97])]) (vs := [str [111, 107], str [97, 114, 103], str [102, 111, 114, 109], str [115, 104, 111, 114, 116], str [108, 111, 110, 103], str [110, 97, 109, 101], str [116, 119, 105, 99, 101], str [115, 116, 97, 116, 101], str [100, 105, 114, 116, 121], str [99, 111, 110, 102, 108, 105, 99, 116], str [115, 97, 109, 101], str [119, 97, 121], str [115, 117, 109], str [100, 111, 119, 110], str [113, 117, 111, 116, 97]]) [[111, 107], [97, 114, 103], [102, 111, 114, 109], [115, 104, 111, 114, 116], [108, 111, 110, 103], [110, 97, 109, 101], [116, 119, 105, 99, 101], [115, 116, 97, 116, 101], [100, 105, 114, 116, 121], [99, 111, 110, 102, 108, 105, 99, 116], [115, 97, 109, 101], [119, 97, 121], [115, 117, 109], [100, 111, 119, 110], [113, 117, 111, 116, 97]] Tryz.underlying82 glit9 (by decide) rfl rfl rfl rfl (by decide) (fun _ _ _ _ => trivial) (by decide) (fun s4_1 hs4_1 => ?_) (by decide)
 replace hS := lt_to hs4_1 hS
 refine Za ?_
 refine Zl ?_
 refine Zq ?_
 refine VC.cutJ (S := Bool) (fun (x12_3 : Bool) => x12_3) (fun (x12_3 : Bool) => [(0, i64 e_0), (3, s4_1.val), (12, .bool x12_3)]) (fun (x12_3 : Bool) => Mo.tt) (fun (x12_3 : Bool) => Ow.emp) hS ?_ ?_
 ·
  clear hS
  intro k4 hS
  refine Zr ?_
  refine Zm ?_
  refine VL.q (q_lss rfl rfl) (by decide) ?_
  refine Zm ?_
  refine VL.split_dec 7 rfl (fun h7 => ?_) (fun h7 => ?_)
  ·
   replace hS := it_t h7 hS
   refine Zn ?_
   refine Zn ?_
   refine Zn ?_
   refine Zn ?_
   refine Zt ?_
   refine VL.mt true [0, 3, 12] (fun _ _ h => h) hS rfl
  replace hS := it_f h7 hS
  refine Zg ?_
  refine Zg ?_
  refine VL.gy rfl rfl (q_ln (s := s4_1) Tryz.underlying82 rfl) (by decide) ?_
  refine VL.gy rfl rfl (q_geq rfl rfl) (by decide) ?_
  refine Zf ?_
  refine VL.mt (decide ((s4_1.l.length : Int) ≤ e_0)) [0, 3, 12] (fun _ _ h => h) hS rfl
 clear hS
 rintro x12_3 hS
 show VC _ _ _ _ _ [(0, i64 e_0), (3, s4_1.val), (12, .bool x12_3)] (Mo.and Mo.tt _) (Ow.emp)
 refine VC.cond rfl (fun h12 => ?_) (fun h12 => ?_)
 ·
  replace hS := it_t h12 hS
  refine Zq (Zr ?_)
  refine Za ?_
  refine Zl ?_
  cases hS
  exact Ze
 replace hS := it_b h12 hS
 refine Zk ?_
 refine Zq (Zr ?_)
 refine Zm ?_
 refine Zm ?_
 obtain ⟨z15_5, nz15_5, hz15_5, hS⟩ := at_s hS
 refine VL.q (q_ixm (s := s4_1) Tryz.underlying82 gsz9 rfl rfl nz15_5 (lt_of_get nz15_5 hz15_5)) (by decide) ?_
 refine VL.q (q_el (s := s4_1) gone9 rfl hz15_5 rfl) (by decide) ?_
 refine Za ?_
 refine Zl ?_
 cases hS
 exact Ze
theorem rectoref3_Words_ct (w_0 : Rectoref3Wrong) {r : Str} (hS : Sh.rectoref3_Words w_0.pl = some r) :
 Ct Tryz.prog 67 [.agg #[w_0.parts.val, i64 w_0.err]] w_0.parts.ok (Ow.emp) (X := Unit) (fun _ => str r) (fun _ => True) (fun _ => Mo.tt) (fun _ => Ow.emp) := by
 refine Ct.of Tryz.func67 rfl (by kernel_rfl) Tryz.ntmps67 (by simp) fun c => ?_
 unfold Sh.rectoref3_Words at hS
 refine Zq (Zr ?_)
 refine VL.box (cs := [w_0.parts.val, i64 w_0.err]) rfl rfl (by decide) fun b1_1 => ?_
 refine Za ?_
 refine Zl ?_
 refine Zq (Zr ?_)
 refine Za ?_
 refine Zl ?_
 refine Zq (Zq (Zr ?_))
 refine Za ?_
 refine Zl ?_
 refine Zb ?_
 refine VC.iter (S := Str × Int) (fun sg => (sg.1, sg.2)) (fun sg => [(1, ptr b1_1 0), (3, str sg.1), (4, i64 sg.2)]) (fun sg => Mo.tt) (fun sg => Ow.star (Blk b1_1 [w_0.parts.val, i64 w_0.err] 54) (Ow.emp)) ([], 0) [1, 3, 4] hS rfl ?_
 clear hS
 rintro ⟨s3_2, i4_3⟩ m1 y1 hS hK1
 show VC _ _ _ _ _ [(1, ptr b1_1 0), (3, str s3_2), (4, i64 i4_3)] (Mo.and Mo.tt _) (Ow.star (Blk b1_1 [w_0.parts.val, i64 w_0.err] 54) (Ow.emp))
 refine Zq (Zq (Zr ?_))
 refine Zm ?_
 refine VL.q (q_field gfa54_0 rfl) (by decide) ?_
 refine VL.q (q_fe gone52 rfl rfl) (by decide) ?_
 refine VL.q (q_ln (s := w_0.parts) Tryz.underlying52 rfl) (by decide) ?_
 refine VL.q (q_lss rfl rfl) (by decide) ?_
 refine Zl ?_
 refine VC.cond_dec rfl (fun h9 => ?_) (fun h9 => ?_)
 ·
  replace hS := it_t h9 hS
  refine Zk ?_
  refine Zq (Zb ?_)
  refine VC.draw ((List.range 19).map fun k => (k, true)) mixed (by kernel_rfl) (by kernel_rfl) (by kernel_rfl) ?_
  refine VD.q rfl (q_move rfl) (by decide) ?_
  refine VD.q rfl (q_field gfa54_0 rfl) (by decide) ?_
  refine VD.q rfl (q_fe gone52 rfl rfl) (by decide) ?_
  refine VD.q rfl (q_move rfl) (by decide) ?_
  obtain ⟨z16_4, nz16_4, hz16_4, hS⟩ := at_s hS
  refine VD.q rfl (q_ixm (s := w_0.parts) Tryz.underlying52 gsz137 rfl rfl nz16_4 (lt_of_get nz16_4 hz16_4)) (by decide) ?_
  refine VD.q rfl (q_field gfa137_0 rfl) (by decide) ?_
  refine VD.q rfl (q_elf (s := w_0.parts) gone9 rfl hz16_4 rfl) (by decide) ?_
  obtain ⟨b19, hS⟩ := gd_s hS
  obtain ⟨y19_5, ey19_5, hS⟩ := lt_s hS
  refine VD.q rfl (q_catE rfl rfl b19 ey19_5) (by decide) ?_
  obtain ⟨b20, hS⟩ := gd_s hS
  obtain ⟨y20_6, ey20_6, hS⟩ := lt_s hS
  refine VD.q rfl (q_catE rfl rfl b20 ey20_6) (by decide) ?_
  refine VD.q rfl (q_field gfa54_0 rfl) (by decide) ?_
  refine VD.q rfl (q_fe gone52 rfl rfl) (by decide) ?_
  refine VD.q rfl (q_move rfl) (by decide) ?_
  obtain ⟨z24_7, nz24_7, hz24_7, hS⟩ := at_s hS
  refine VD.q rfl (q_ixm (s := w_0.parts) Tryz.underlying52 gsz137 rfl rfl nz24_7 (lt_of_get nz24_7 hz24_7)) (by decide) ?_
  refine VD.q rfl (q_field gfa137_1 rfl) (by decide) ?_
  refine VD.q rfl (q_elf (s := w_0.parts) gone3 rfl hz24_7 rfl) (by decide) ?_
  obtain ⟨y27_8, ey27_8, hS⟩ := bd_s hS
  refine VD.q rfl (q_call (rectoref3_Decimal_ct z24_7.at_ ey27_8) rfl (fun _ _ => rfl)) (by decide) ?_
  obtain ⟨b28, hS⟩ := gd_s hS
  obtain ⟨y28_9, ey28_9, hS⟩ := lt_s hS
  refine VD.q rfl (q_catE rfl rfl b28 ey28_9) (by decide) ?_
  obtain ⟨b29, hS⟩ := gd_s hS
  obtain ⟨y29_10, ey29_10, hS⟩ := lt_s hS
  refine VD.q rfl (q_catE rfl rfl b29 ey29_10) (by decide) ?_
  refine VD.q rfl (q_assign rfl) (by decide) ?_
  refine VD.to (fun _ _ h => h) ?_
  refine VC.keep [1, 3, 4] rfl ?_
  refine Zr ?_
  refine Zm ?_
  obtain ⟨b11, hS⟩ := gd_s hS
  refine VL.q (q_add rfl rfl b11) (by decide) ?_
  refine Za ?_
  refine VL.rnd (y29_10, (i4_3 + 1)) [1, 3, 4] (fun _ _ h => h) (go2 hS hK1) rfl
 replace hS := it_f h9 hS
 replace hS := up2 hS hK1
 refine Zx ?_
 refine Zq (Zr ?_)
 refine Zm ?_
 refine VL.q (q_field gfa54_1 rfl) (by decide) ?_
 refine VL.q (q_fe gone3 rfl rfl) (by decide) ?_
 obtain ⟨y33_11, ey33_11, hS⟩ := bd_s hS
 refine VL.q (q_call (rectoref3_Word_ct w_0.err ey33_11) rfl (fun _ _ => rfl)) (by decide) ?_
 obtain ⟨b34, hS⟩ := gd_s hS
 obtain ⟨y34_12, ey34_12, hS⟩ := lt_s hS
 refine VL.q (q_catE rfl rfl b34 ey34_12) (by decide) ?_
 refine Za ?_
 refine Zl ?_
 refine VC.keep [2] rfl ?_
 cases hS
 exact Ze
theorem rectolaw2_Tells_ct (err_0 : Er) (w_1 : Rectoref3Wrong) {r : Bool} (hS : Sh.rectolaw2_Tells err_0.pl w_1.pl = some r) :
 Ct Tryz.prog 20 [err_0.val, .agg #[w_1.parts.val, i64 w_1.err]] (err_0.ok.and (w_1.parts.ok.and Gl)) (Ow.emp) (X := Unit) (fun _ => .bool r) (fun _ => True) (fun _ => Mo.tt) (fun _ => Ow.emp) := by
 refine Ct.of Tryz.func20 rfl (by kernel_rfl) Tryz.ntmps20 (by simp) fun c => ?_
 unfold Sh.rectolaw2_Tells at hS
 refine Zq (Zr ?_)
 refine VL.box (cs := [w_1.parts.val, i64 w_1.err]) rfl rfl (by decide) fun b3_1 => ?_
 refine Za ?_
 refine Zl ?_
 refine Zq (Zq (Zr ?_))
 refine VL.q (q_field gfa54_1 rfl) (by decide) ?_
 refine VL.q (q_fe gone3 rfl rfl) (by decide) ?_
 refine VL.q (q_eql rfl rfl) (by decide) ?_
 refine Zl ?_
 refine VC.cond_dec rfl (fun h8 => ?_) (fun h8 => ?_)
 ·
  replace hS := it_t h8 hS
  refine Zq (Zr ?_)
  refine Zm ?_
  refine VL.q (q_ereq Tryz.underlying29 rfl) (by decide) ?_
  refine Za ?_
  refine Zl ?_
  cases hS
  exact Ze
 replace hS := it_f h8 hS
 refine Zk ?_
 refine Zq ?_
 refine VC.cutJ (S := Bool) (fun (x27_2 : Bool) => x27_2) (fun (x27_2 : Bool) => [(0, err_0.val), (3, ptr b3_1 0), (27, .bool x27_2)]) (fun (x27_2 : Bool) => Mo.tt) (fun (x27_2 : Bool) => Ow.star (Blk b3_1 [w_1.parts.val, i64 w_1.err] 54) (Ow.emp)) hS ?_ ?_
 ·
  clear hS
  intro k3 hS
  refine VC.draw ((List.range 17).map fun k => (k, true)) mixed (by kernel_rfl) (by kernel_rfl) (by kernel_rfl) ?_
  refine VD.q rfl (q_move rfl) (by decide) ?_
  refine VD.q rfl (q_ereq Tryz.underlying29 rfl) (by decide) ?_
  refine VD.q rfl (q_move rfl) (by decide) ?_
  refine VD.split_dec 13 rfl (fun h13 => ?_) (fun h13 => ?_)
  ·
   replace hS := it_t h13 hS
   refine Zd ?_
   refine Zd ?_
   refine Zd ?_
   refine Zd ?_
   refine Zd ?_
   refine VD.q rfl (q_pick_t rfl rfl) (by decide) ?_
   refine VD.q rfl (q_move rfl) (by decide) ?_
   refine Zd ?_
   refine Zd ?_
   refine Zd ?_
   refine Zd ?_
   refine Zd ?_
   refine Zd ?_
   refine VD.q rfl (q_pick_t rfl rfl) (by decide) ?_
   refine VD.mt true [0, 3, 27] (fun _ _ h => h) hS rfl
  replace hS := it_f h13 hS
  refine VD.gy rfl rfl rfl (q_move rfl) (by decide) ?_
  obtain ⟨y15_4, ey15_4, hS⟩ := bd_s hS
  refine VD.gy rfl rfl rfl (q_say rfl (text_says err_0 ey15_4)) (by decide) ?_
  refine VD.gy rfl rfl rfl (q_fes gagg54 rfl rfl) (by decide) ?_
  obtain ⟨y17_5, ey17_5, hS⟩ := bd_s hS
  refine VD.gy rfl rfl rfl (q_call (rectoref3_Words_ct w_1 ey17_5) rfl (fun _ _ => rfl)) (by decide) ?_
  refine VD.gy rfl rfl rfl (q_sne rfl rfl) (by decide) ?_
  refine VD.q rfl (q_pick_f rfl rfl) (by decide) ?_
  refine VD.q rfl (q_move rfl) (by decide) ?_
  refine VD.split_ndec 20 rfl (fun h20 => ?_) (fun h20 => ?_)
  ·
   replace hS := it_f h20 hS
   refine Zd ?_
   refine Zd ?_
   refine Zd ?_
   refine Zd ?_
   refine Zd ?_
   refine Zd ?_
   refine VD.q rfl (q_pick_t rfl rfl) (by decide) ?_
   refine VD.mt true [0, 3, 27] (fun _ _ h => h) hS rfl
  replace hS := it_t h20 hS
  refine VD.gy rfl rfl rfl (q_move rfl) (by decide) ?_
  refine VD.gy rfl rfl rfl (q_field gfa54_1 rfl) (by decide) ?_
  refine VD.gy rfl rfl rfl (q_fe gone3 rfl rfl) (by decide) ?_
  refine VD.gy rfl rfl rfl (q_mkif Tryz.underlying115 (fun _ h => by cases h) rfl) (by decide) ?_
  refine VD.gy rfl rfl rfl (q_call (is_ct err_0 w_1.err) rfl (fun _ _ => rfl)) (by decide) ?_
  refine VD.gy rfl rfl rfl (q_not rfl) (by decide) ?_
  refine VD.q rfl (q_pick_f rfl rfl) (by decide) ?_
  refine VD.mt (!decide (endNo err_0.pl = some w_1.err)) [0, 3, 27] (fun _ _ h => h) hS rfl
 clear hS
 rintro x27_2 hS
 show VC _ _ _ _ _ [(0, err_0.val), (3, ptr b3_1 0), (27, .bool x27_2)] (Mo.and Mo.tt _) (Ow.star (Blk b3_1 [w_1.parts.val, i64 w_1.err] 54) (Ow.emp))
 refine VC.cond rfl (fun h27 => ?_) (fun h27 => ?_)
 ·
  replace hS := it_t h27 hS
  refine Zq (Zr ?_)
  refine Za ?_
  refine Zl ?_
  cases hS
  exact Ze
 replace hS := it_b h27 hS
 refine Zk ?_
 refine Zq (Zq (Zr ?_))
 refine VL.q (q_field gfa54_0 rfl) (by decide) ?_
 refine VL.q (q_fe gone52 rfl rfl) (by decide) ?_
 refine VL.q (q_ln (s := w_1.parts) Tryz.underlying52 rfl) (by decide) ?_
 refine VL.q (q_eql rfl rfl) (by decide) ?_
 refine Zl ?_
 refine VC.cond_dec rfl (fun h31 => ?_) (fun h31 => ?_)
 ·
  replace hS := it_t h31 hS
  refine Zq (Zr ?_)
  refine Za ?_
  refine Zl ?_
  cases hS
  exact Ze
 replace hS := it_f h31 hS
 refine Zk ?_
 refine Zq (Zr ?_)
 refine VL.alloc (cs := [.pointer none]) (by kernel_rfl) (by decide) fun b5_6 => ?_
 refine Zl ?_
 refine Zq (Zq (Zr ?_))
 refine Zm ?_
 refine VL.q (q_mkif Tryz.underlying135 (fun _ h => by cases h) rfl) (by decide) ?_
 rcases err_0 with _ | _ | ⟨eb7, ep7, ea7, ez7⟩
 ·
  exact absurd hS (by simp [Er.pl])
 ·
  exact absurd hS (by simp [Er.pl])
 dsimp only [Er.pl] at hS
 refine VL.addM (Cells eb7 0 [str ep7, i64 ea7, ez7.val]) (fun _ m => (InM.out (X := (Er.fault eb7 ep7 ea7 ez7).ok) _ m).1) ?_
 refine VL.addM ez7.ok (fun _ m => (InM.out (X := (Er.fault eb7 ep7 ea7 ez7).ok) _ m.2).2) ?_
 refine VL.callO (As.as_ct eb7 b5_6) rfl (by decide) ?_
 rintro _ _
 refine VL.q (q_not rfl) (by decide) ?_
 refine Zm ?_
 refine VL.gy rfl rfl (q_fe gone114 rfl rfl) (by decide) ?_
 refine VL.gy rfl rfl (q_peqn Tryz.underlying114 rfl) (by decide) ?_
 refine Zf ?_
 refine Zl ?_
 refine VC.keep [3, 5, 39] rfl ?_
 refine VC.cond_f rfl ?_
 refine Zk ?_
 refine Zq ?_
 refine VC.draw ((List.range 23).map fun k => (k, true)) mixed (by kernel_rfl) (by kernel_rfl) (by kernel_rfl) ?_
 refine VD.q rfl (q_fe gone114 rfl rfl) (by decide) ?_
 refine VD.q rfl (q_nilCheck rfl) (by decide) ?_
 refine VD.q rfl (q_field gfa117_0 rfl) (by decide) ?_
 refine VD.q rfl (q_fm gone9 rfl rfl) (by decide) ?_
 refine VD.q rfl (q_field gfa54_0 rfl) (by decide) ?_
 refine VD.q rfl (q_fe gone52 rfl rfl) (by decide) ?_
 obtain ⟨z46_8, nz46_8, hz46_8, hS⟩ := at_s hS
 refine VD.q rfl (q_ixm (s := w_1.parts) Tryz.underlying52 gsz137 rfl rfl nz46_8 (lt_of_get nz46_8 hz46_8)) (by decide) ?_
 refine VD.q rfl (q_field gfa137_0 rfl) (by decide) ?_
 refine VD.q rfl (q_elf (s := w_1.parts) gone9 rfl hz46_8 rfl) (by decide) ?_
 refine VD.q rfl (q_seq rfl rfl) (by decide) ?_
 refine VD.q rfl (q_move rfl) (by decide) ?_
 refine VD.split_dec 50 rfl (fun h50 => ?_) (fun h50 => ?_)
 ·
  replace hS := it_t h50 hS
  refine VD.gy rfl rfl rfl (q_fe gone114 rfl rfl) (by decide) ?_
  refine VD.gy rfl rfl rfl (q_nilCheck rfl) (by decide) ?_
  refine VD.gy rfl rfl rfl (q_field gfa117_1 rfl) (by decide) ?_
  refine VD.gy rfl rfl rfl (q_fm gone3 rfl rfl) (by decide) ?_
  refine VD.gy rfl rfl rfl (q_field gfa54_0 rfl) (by decide) ?_
  refine VD.gy rfl rfl rfl (q_fe gone52 rfl rfl) (by decide) ?_
  obtain ⟨z57_9, nz57_9, hz57_9, hS⟩ := at_s hS
  refine VD.gy rfl rfl rfl (q_ixm (s := w_1.parts) Tryz.underlying52 gsz137 rfl rfl nz57_9 (lt_of_get nz57_9 hz57_9)) (by decide) ?_
  refine VD.gy rfl rfl rfl (q_field gfa137_1 rfl) (by decide) ?_
  refine VD.gy rfl rfl rfl (q_elf (s := w_1.parts) gone3 rfl hz57_9 rfl) (by decide) ?_
  refine VD.gy rfl rfl rfl (q_eql rfl rfl) (by decide) ?_
  refine VD.q rfl (q_pick_t rfl rfl) (by decide) ?_
  refine VD.q rfl (q_assign rfl) (by decide) ?_
  refine VD.to (fun _ _ h => h) ?_
  refine VC.keep [4] rfl ?_
  cases hS
  exact Ze
 replace hS := it_f h50 hS
 refine Zd ?_
 refine Zd ?_
 refine Zd ?_
 refine Zd ?_
 refine Zd ?_
 refine Zd ?_
 refine Zd ?_
 refine Zd ?_
 refine Zd ?_
 refine Zd ?_
 refine VD.q rfl (q_pick_f rfl rfl) (by decide) ?_
 refine VD.q rfl (q_assign rfl) (by decide) ?_
 refine VD.to (fun _ _ h => h) ?_
 refine VC.keep [4] rfl ?_
 cases hS
 exact Ze
theorem rectolaw14_Of_ct (r_0 : Sv FilesFile) {r : List Rectoref14File} (hS : Sh.rectolaw14_Of r_0.l = some r) :
 Ct Tryz.prog 18 [r_0.val] r_0.ok (Ow.emp) (X := Sv Rectoref14File) (fun x => x.val) (fun x => r = x.l) (fun x => Mo.tt) (fun x => Sv.own x 45) := by
 refine Ct.of Tryz.func18 rfl (by kernel_rfl) Tryz.ntmps18 (by simp) fun c => ?_
 unfold Sh.rectolaw14_Of at hS
 refine Zq (Zr ?_)
 refine Za ?_
 refine Zl ?_
 refine Zq (Zr ?_)
 refine Za ?_
 refine Zl ?_
 refine Zq (Zq (Zr ?_))
 refine Za ?_
 refine Zl ?_
 refine Zb ?_
 refine VC.nilO (⟨none, 0, []⟩ : Sv Rectoref14File) 45 ⟨rfl, rfl⟩ ?_
 refine VC.iter (S := Sv Rectoref14File × Int) (fun sg => (sg.1.l, sg.2)) (fun sg => [(0, r_0.val), (3, sg.1.val), (4, i64 sg.2)]) (fun sg => Mo.tt) (fun sg => Ow.star (Sv.own sg.1 45) (Ow.emp)) (⟨none, 0, []⟩, 0) [0, 3, 4] hS rfl ?_
 clear hS
 rintro ⟨out3_1, i4_2⟩ m1 y1 hS hK1
 show VC _ _ _ _ _ [(0, r_0.val), (3, out3_1.val), (4, i64 i4_2)] (Mo.and Mo.tt _) (Ow.star (Sv.own out3_1 45) (Ow.emp))
 refine Zq (Zq (Zr ?_))
 refine Zm ?_
 refine Zm ?_
 refine VL.q (q_ln (s := r_0) Tryz.underlying38 rfl) (by decide) ?_
 refine VL.q (q_lss rfl rfl) (by decide) ?_
 refine Zl ?_
 refine VC.cond_dec rfl (fun h8 => ?_) (fun h8 => ?_)
 ·
  replace hS := it_t h8 hS
  refine Zk ?_
  refine Zq (Zb ?_)
  refine VC.draw [(0, true), (1, true), (2, true), (3, true), (4, true), (5, true), (6, true), (7, true), (8, true), (9, true), (10, true), (11, true), (12, true), (13, true), (14, true), (15, true), (16, true), (17, false), (18, false), (19, true)] mixed (by kernel_rfl) (by kernel_rfl) (by kernel_rfl) ?_
  refine VD.q rfl (q_move rfl) (by decide) ?_
  refine VD.q rfl (q_move rfl) (by decide) ?_
  refine VD.q rfl (q_move rfl) (by decide) ?_
  obtain ⟨z14_3, nz14_3, hz14_3, hS⟩ := at_s hS
  refine VD.q rfl (q_ixm (s := r_0) Tryz.underlying38 gsz42 rfl rfl nz14_3 (lt_of_get nz14_3 hz14_3)) (by decide) ?_
  refine VD.q rfl (q_field gfa42_0 rfl) (by decide) ?_
  refine VD.q rfl (q_elf (s := r_0) gone9 rfl hz14_3 rfl) (by decide) ?_
  refine VD.q rfl (q_move rfl) (by decide) ?_
  refine VD.q rfl (q_move rfl) (by decide) ?_
  obtain ⟨z19_4, nz19_4, hz19_4, hS⟩ := at_s hS
  refine VD.q rfl (q_ixm (s := r_0) Tryz.underlying38 gsz42 rfl rfl nz19_4 (lt_of_get nz19_4 hz19_4)) (by decide) ?_
  refine VD.q rfl (q_field gfa42_1 rfl) (by decide) ?_
  refine VD.q rfl (q_elf (s := r_0) gone3 rfl hz19_4 rfl) (by decide) ?_
  refine VD.q rfl (q_move rfl) (by decide) ?_
  refine VD.q rfl (q_move rfl) (by decide) ?_
  obtain ⟨z24_5, nz24_5, hz24_5, hS⟩ := at_s hS
  refine VD.q rfl (q_ixm (s := r_0) Tryz.underlying38 gsz42 rfl rfl nz24_5 (lt_of_get nz24_5 hz24_5)) (by decide) ?_
  refine VD.q rfl (q_field gfa42_2 rfl) (by decide) ?_
  refine VD.q rfl (q_elf (s := r_0) gone9 rfl hz24_5 rfl) (by decide) ?_
  refine VD.q rfl (q_build (vs := [(0, str z14_3.path), (1, i64 z19_4.mode), (2, str z24_5.data)]) (cs := #[str z14_3.path, i64 z19_4.mode, str z24_5.data]) rfl (by kernel_rfl)) (by decide) ?_
  refine VD.one rfl ?_
  refine VL.lit (α := Rectoref14File) (xs := [.tmp 27]) (vs := [.agg #[str z14_3.path, i64 z19_4.mode, str z24_5.data]]) [⟨z14_3.path, z19_4.mode, z24_5.data⟩] Tryz.underlying48 glit45 (by decide) rfl rfl rfl rfl (by decide) (fun _ _ _ _ => trivial) (by decide) (fun s28_6 hs28_6 => ?_) (by decide)
  replace hS := lt_to hs28_6 hS
  refine VL.back (D' := []) (by kernel_rfl) (Pend.nil) ?_
  refine VD.one rfl ?_
  obtain ⟨b29, hS⟩ := gd_s hS
  refine VL.app (s := out3_1) (r := s28_6) Tryz.underlying48 gapp45 (by decide) rfl Fo.out (ap1 b29) (ap2 b29 (by decide)) (by decide) (fun s29_8 hs29_8 => ?_)
  replace hS := lt_to hs29_8 hS
  refine VL.back (D' := []) (by kernel_rfl) (Pend.nil) ?_
  refine VD.q rfl (q_assign rfl) (by decide) ?_
  refine VD.to (fun _ _ h => h) ?_
  refine VC.keep [0, 3, 4] rfl ?_
  refine Zr ?_
  refine Zm ?_
  obtain ⟨b10, hS⟩ := gd_s hS
  refine VL.q (q_add rfl rfl b10) (by decide) ?_
  refine Za ?_
  refine VL.rnd (s29_8, (i4_2 + 1)) [0, 3, 4] (fun _ _ h => h) (go2 hS hK1) rfl
 replace hS := it_f h8 hS
 replace hS := up2 hS hK1
 refine Zx ?_
 refine Zq (Zr ?_)
 refine Zm ?_
 refine Za ?_
 refine Zl ?_
 cases hS
 exact VC.ret (fin1 (.inr rfl) rfl rfl out3_1 rfl rfl (by (try dsimp only); exact InM.out) (by (try dsimp only); exact EntO.out))
theorem rectoref14_Stage_ct (l_0 : Sv Rectoref14Entry) (n_1 : Int) {r : List Rectoref14File} (hS : Sh.rectoref14_Stage l_0.l n_1 = some r) :
 Ct Tryz.prog 40 [l_0.val, i64 n_1] l_0.ok (Ow.emp) (X := Sv Rectoref14File) (fun x => x.val) (fun x => r = x.l) (fun x => Mo.tt) (fun x => Sv.own x 45) := by
 refine Ct.of Tryz.func40 rfl (by kernel_rfl) Tryz.ntmps40 (by simp) fun c => ?_
 unfold Sh.rectoref14_Stage at hS
 refine Zq (Zr ?_)
 refine Za ?_
 refine Zl ?_
 refine Zq (Zr ?_)
 refine Za ?_
 refine Zl ?_
 refine Zq (Zq (Zr ?_))
 refine Za ?_
 refine Zl ?_
 refine Zb ?_
 refine VC.nilO (⟨none, 0, []⟩ : Sv Rectoref14File) 45 ⟨rfl, rfl⟩ ?_
 refine VC.iter (S := Sv Rectoref14File × Int) (fun sg => (sg.1.l, sg.2)) (fun sg => [(0, l_0.val), (1, i64 n_1), (5, sg.1.val), (6, i64 sg.2)]) (fun sg => Mo.tt) (fun sg => Ow.star (Sv.own sg.1 45) (Ow.emp)) (⟨none, 0, []⟩, 0) [0, 1, 5, 6] hS rfl ?_
 clear hS
 rintro ⟨out5_1, i6_2⟩ m1 y1 hS hK1
 show VC _ _ _ _ _ [(0, l_0.val), (1, i64 n_1), (5, out5_1.val), (6, i64 i6_2)] (Mo.and Mo.tt _) (Ow.star (Sv.own out5_1 45) (Ow.emp))
 refine Zq (Zq (Zr ?_))
 refine Zm ?_
 refine Zm ?_
 refine VL.q (q_ln (s := l_0) Tryz.underlying68 rfl) (by decide) ?_
 refine VL.q (q_lss rfl rfl) (by decide) ?_
 refine Zl ?_
 refine VC.cond_dec rfl (fun h10 => ?_) (fun h10 => ?_)
 ·
  replace hS := it_t h10 hS
  refine Zk ?_
  refine VC.cutJ (S := Sv Rectoref14File) (fun (out5_3 : Sv Rectoref14File) => out5_3.l) (fun (out5_3 : Sv Rectoref14File) => [(0, l_0.val), (1, i64 n_1), (5, out5_3.val), (6, i64 i6_2)]) (fun (out5_3 : Sv Rectoref14File) => Mo.tt) (fun (out5_3 : Sv Rectoref14File) => Ow.star (Sv.own out5_3 45) (Ow.emp)) hS ?_ ?_
  ·
   clear hS
   intro k4 hS
   refine Zb (Zq (Zr ?_))
   refine Zm ?_
   refine Zm ?_
   obtain ⟨z15_5, nz15_5, hz15_5, hS⟩ := at_s hS
   refine VL.q (q_ixm (s := l_0) Tryz.underlying68 gsz152 rfl rfl nz15_5 (lt_of_get nz15_5 hz15_5)) (by decide) ?_
   refine VL.q (q_field gfa152_1 rfl) (by decide) ?_
   refine VL.q (q_elf (s := l_0) gone3 rfl hz15_5 rfl) (by decide) ?_
   refine Zm ?_
   refine VL.q (q_eql rfl rfl) (by decide) ?_
   refine Zl ?_
   refine VC.keep [0, 1, 5, 6, 19] rfl ?_
   refine VC.cond_dec rfl (fun h19 => ?_) (fun h19 => ?_)
   ·
    replace hS := it_t h19 hS
    refine VC.draw [(0, true), (1, true), (2, true), (3, true), (4, true), (5, true), (6, true), (7, true), (8, true), (9, true), (10, true), (11, true), (12, true), (13, true), (14, true), (15, true), (16, true), (17, false), (18, false), (19, true)] mixed (by kernel_rfl) (by kernel_rfl) (by kernel_rfl) ?_
    refine VD.q rfl (q_move rfl) (by decide) ?_
    refine VD.q rfl (q_move rfl) (by decide) ?_
    refine VD.q rfl (q_move rfl) (by decide) ?_
    obtain ⟨z23_6, nz23_6, hz23_6, hS⟩ := at_s hS
    refine VD.q rfl (q_ixm (s := l_0) Tryz.underlying68 gsz152 rfl rfl nz23_6 (lt_of_get nz23_6 hz23_6)) (by decide) ?_
    refine VD.q rfl (q_field gfa152_0 rfl) (by decide) ?_
    refine VD.q rfl (q_elf (s := l_0) gone9 rfl hz23_6 rfl) (by decide) ?_
    refine VD.q rfl (q_move rfl) (by decide) ?_
    refine VD.q rfl (q_move rfl) (by decide) ?_
    obtain ⟨z28_7, nz28_7, hz28_7, hS⟩ := at_s hS
    refine VD.q rfl (q_ixm (s := l_0) Tryz.underlying68 gsz152 rfl rfl nz28_7 (lt_of_get nz28_7 hz28_7)) (by decide) ?_
    refine VD.q rfl (q_field gfa152_2 rfl) (by decide) ?_
    refine VD.q rfl (q_elf (s := l_0) gone3 rfl hz28_7 rfl) (by decide) ?_
    refine VD.q rfl (q_move rfl) (by decide) ?_
    refine VD.q rfl (q_move rfl) (by decide) ?_
    obtain ⟨z33_8, nz33_8, hz33_8, hS⟩ := at_s hS
    refine VD.q rfl (q_ixm (s := l_0) Tryz.underlying68 gsz152 rfl rfl nz33_8 (lt_of_get nz33_8 hz33_8)) (by decide) ?_
    refine VD.q rfl (q_field gfa152_3 rfl) (by decide) ?_
    refine VD.q rfl (q_elf (s := l_0) gone9 rfl hz33_8 rfl) (by decide) ?_
    refine VD.q rfl (q_build (vs := [(0, str z23_6.path), (1, i64 z28_7.mode), (2, str z33_8.data)]) (cs := #[str z23_6.path, i64 z28_7.mode, str z33_8.data]) rfl (by kernel_rfl)) (by decide) ?_
    refine VD.one rfl ?_
    refine VL.lit (α := Rectoref14File) (xs := [.tmp 36]) (vs := [.agg #[str z23_6.path, i64 z28_7.mode, str z33_8.data]]) [⟨z23_6.path, z28_7.mode, z33_8.data⟩] Tryz.underlying48 glit45 (by decide) rfl rfl rfl rfl (by decide) (fun _ _ _ _ => trivial) (by decide) (fun s37_9 hs37_9 => ?_) (by decide)
    replace hS := lt_to hs37_9 hS
    refine VL.back (D' := []) (by kernel_rfl) (Pend.nil) ?_
    refine VD.one rfl ?_
    obtain ⟨b38, hS⟩ := gd_s hS
    refine VL.app (s := out5_1) (r := s37_9) Tryz.underlying48 gapp45 (by decide) rfl Fo.out (ap1 b38) (ap2 b38 (by decide)) (by decide) (fun s38_11 hs38_11 => ?_)
    replace hS := lt_to hs38_11 hS
    refine VL.back (D' := []) (by kernel_rfl) (Pend.nil) ?_
    refine VD.q rfl (q_assign rfl) (by decide) ?_
    refine VD.mt s38_11 [0, 1, 5, 6] (fun _ _ h => h) hS rfl
   replace hS := it_f h19 hS
   refine VC.skip_mt out5_1 [0, 1, 5, 6] (fun _ _ h => h) hS rfl
  clear hS
  rintro out5_3 hS
  show VC _ _ _ _ _ [(0, l_0.val), (1, i64 n_1), (5, out5_3.val), (6, i64 i6_2)] (Mo.and Mo.tt _) (Ow.star (Sv.own out5_3 45) (Ow.emp))
  refine Zr ?_
  refine Zm ?_
  obtain ⟨b12, hS⟩ := gd_s hS
  refine VL.q (q_add rfl rfl b12) (by decide) ?_
  refine Za ?_
  refine VL.rnd (out5_3, (i6_2 + 1)) [0, 1, 5, 6] (fun _ _ h => h) (go2 hS hK1) rfl
 replace hS := it_f h10 hS
 replace hS := up2 hS hK1
 refine Zx ?_
 refine Zq (Zr ?_)
 refine Zm ?_
 refine Za ?_
 refine Zl ?_
 cases hS
 exact VC.ret (fin1 (.inr rfl) rfl rfl out5_1 rfl rfl (by (try dsimp only); exact InM.out) (by (try dsimp only); exact EntO.out))
theorem rectoref14_Same_ct (a_0 : Sv Rectoref14File) (b_1 : Sv Rectoref14File) {r : Bool} (hS : Sh.rectoref14_Same a_0.l b_1.l = some r) :
 Ct Tryz.prog 25 [a_0.val, b_1.val] (a_0.ok.and b_1.ok) (Ow.emp) (X := Unit) (fun _ => .bool r) (fun _ => True) (fun _ => Mo.tt) (fun _ => Ow.emp) := by
 refine Ct.of Tryz.func25 rfl (by kernel_rfl) Tryz.ntmps25 (by simp) fun c => ?_
 unfold Sh.rectoref14_Same at hS
 refine Zq (Zr ?_)
 refine Za ?_
 refine Zl ?_
 refine Zq (Zq (Zr ?_))
 refine Zm ?_
 refine VL.q (q_ln (s := a_0) Tryz.underlying48 rfl) (by decide) ?_
 refine Zm ?_
 refine VL.q (q_ln (s := b_1) Tryz.underlying48 rfl) (by decide) ?_
 refine VL.q (q_neq rfl rfl) (by decide) ?_
 refine Zl ?_
 refine VC.cond_ndec rfl (fun h10 => ?_) (fun h10 => ?_)
 ·
  replace hS := it_f h10 hS
  refine Zq (Zr ?_)
  refine Za ?_
  refine Zl ?_
  cases hS
  exact Ze
 replace hS := it_t h10 hS
 refine Zk ?_
 refine Zq (Zq (Zr ?_))
 refine Za ?_
 refine Zl ?_
 refine Zb ?_
 refine VC.iter (S := Int) (fun (i5_1 : Int) => i5_1) (fun (i5_1 : Int) => [(0, a_0.val), (1, b_1.val), (5, i64 i5_1)]) (fun (i5_1 : Int) => Mo.tt) (fun (i5_1 : Int) => Ow.emp) 0 [0, 1, 5] hS rfl ?_
 clear hS
 rintro i5_1 m1 y1 hS hK1
 show VC _ _ _ _ _ [(0, a_0.val), (1, b_1.val), (5, i64 i5_1)] (Mo.and Mo.tt _) (Ow.emp)
 refine Zq (Zq (Zr ?_))
 refine Zm ?_
 refine Zm ?_
 refine VL.q (q_ln (s := a_0) Tryz.underlying48 rfl) (by decide) ?_
 refine VL.q (q_lss rfl rfl) (by decide) ?_
 refine Zl ?_
 refine VC.cond_dec rfl (fun h14 => ?_) (fun h14 => ?_)
 ·
  replace hS := it_t h14 hS
  refine Zk ?_
  refine Zq (Zb (Zq ?_))
  refine VC.draw ((List.range 9).map fun k => (k, true)) mixed (by kernel_rfl) (by kernel_rfl) (by kernel_rfl) ?_
  refine VD.q rfl (q_move rfl) (by decide) ?_
  refine VD.q rfl (q_move rfl) (by decide) ?_
  obtain ⟨z19_2, nz19_2, hz19_2, hS⟩ := at_s hS
  refine VD.q rfl (q_ixm (s := a_0) Tryz.underlying48 gsz45 rfl rfl nz19_2 (lt_of_get nz19_2 hz19_2)) (by decide) ?_
  refine VD.q rfl (q_els (s := a_0) gagg45 rfl rfl hz19_2) (by decide) ?_
  refine VD.q rfl (q_move rfl) (by decide) ?_
  refine VD.q rfl (q_move rfl) (by decide) ?_
  obtain ⟨z23_3, nz23_3, hz23_3, hS⟩ := at_s hS
  refine VD.q rfl (q_ixm (s := b_1) Tryz.underlying48 gsz45 rfl rfl nz23_3 (lt_of_get nz23_3 hz23_3)) (by decide) ?_
  refine VD.q rfl (q_els (s := b_1) gagg45 rfl rfl hz23_3) (by decide) ?_
  refine VD.q rfl (q_stneq geqg45 (geqs45 z19_2.path z19_2.mode z19_2.data z23_3.path z23_3.mode z23_3.data) rfl rfl) (by decide) ?_
  refine VD.to (fun _ _ h => h) ?_
  refine VC.keep [0, 1, 5, 25] rfl ?_
  refine VC.cond_ndec rfl (fun h25 => ?_) (fun h25 => ?_)
  ·
   replace hS := it_f h25 hS
   refine Zq (Zr ?_)
   refine Za ?_
   refine Zl ?_
   replace hS := up2 hS hK1
   cases hS
   exact Ze
  replace hS := it_t h25 hS
  refine Zk ?_
  refine Zr ?_
  refine Zm ?_
  obtain ⟨b16, hS⟩ := gd_s hS
  refine VL.q (q_add rfl rfl b16) (by decide) ?_
  refine Za ?_
  refine VL.rnd (i5_1 + 1) [0, 1, 5] (fun _ _ h => h) (go2 hS hK1) rfl
 replace hS := it_f h14 hS
 replace hS := up2 hS hK1
 refine Zx ?_
 refine Zq (Zr ?_)
 refine Za ?_
 refine Zl ?_
 cases hS
 exact Ze
theorem rectolaw15_All_ct (a_0 : Sv IndexEntry) (b_1 : Sv Rectoref14Entry) {r : Bool} (hS : Sh.rectolaw15_All a_0.l b_1.l = some r) :
 Ct Tryz.prog 42 [a_0.val, b_1.val] (a_0.ok.and b_1.ok) (Ow.emp) (X := Unit) (fun _ => .bool r) (fun _ => True) (fun _ => Mo.tt) (fun _ => Ow.emp) := by
 refine Ct.of Tryz.func42 rfl (by kernel_rfl) Tryz.ntmps42 (by simp) fun c => ?_
 unfold Sh.rectolaw15_All at hS
 refine Zq (Zr ?_)
 refine Za ?_
 refine Zl ?_
 refine Zq (Zr ?_)
 refine Zm ?_
 obtain ⟨y8_1, ey8_1, hS⟩ := bd_s hS
 refine VL.callO (rectolaw15_Of_ct a_0 ey8_1) rfl (by decide) ?_
 rintro q8_1_0 rfl
 try dsimp only
 refine Za ?_
 refine Zl ?_
 refine Zq (Zq (Zr ?_))
 refine Zm ?_
 refine VL.q (q_ln (s := q8_1_0) Tryz.underlying68 rfl) (by decide) ?_
 refine Zm ?_
 refine VL.q (q_ln (s := b_1) Tryz.underlying68 rfl) (by decide) ?_
 refine VL.q (q_neq rfl rfl) (by decide) ?_
 refine Zl ?_
 refine VC.keep [1, 5, 13] rfl ?_
 refine VC.cond_ndec rfl (fun h13 => ?_) (fun h13 => ?_)
 ·
  replace hS := it_f h13 hS
  refine Zq (Zr ?_)
  refine Za ?_
  refine Zl ?_
  cases hS
  exact Ze
 replace hS := it_t h13 hS
 refine Zk ?_
 refine Zq (Zq (Zr ?_))
 refine Za ?_
 refine Zl ?_
 refine Zb ?_
 refine VC.iter (S := Int) (fun (i6_2 : Int) => i6_2) (fun (i6_2 : Int) => [(1, b_1.val), (5, q8_1_0.val), (6, i64 i6_2)]) (fun (i6_2 : Int) => Mo.tt) (fun (i6_2 : Int) => Ow.star (Sv.own q8_1_0 152) (Ow.emp)) 0 [1, 5, 6] hS rfl ?_
 clear hS
 rintro i6_2 m1 y1 hS hK1
 show VC _ _ _ _ _ [(1, b_1.val), (5, q8_1_0.val), (6, i64 i6_2)] (Mo.and Mo.tt _) (Ow.star (Sv.own q8_1_0 152) (Ow.emp))
 refine Zq (Zq (Zr ?_))
 refine Zm ?_
 refine Zm ?_
 refine VL.q (q_ln (s := q8_1_0) Tryz.underlying68 rfl) (by decide) ?_
 refine VL.q (q_lss rfl rfl) (by decide) ?_
 refine Zl ?_
 refine VC.cond_dec rfl (fun h17 => ?_) (fun h17 => ?_)
 ·
  replace hS := it_t h17 hS
  refine Zk ?_
  refine Zq (Zb (Zq ?_))
  refine VC.draw ((List.range 9).map fun k => (k, true)) mixed (by kernel_rfl) (by kernel_rfl) (by kernel_rfl) ?_
  refine VD.q rfl (q_move rfl) (by decide) ?_
  refine VD.q rfl (q_move rfl) (by decide) ?_
  obtain ⟨z22_3, nz22_3, hz22_3, hS⟩ := at_s hS
  refine VD.q rfl (q_ixo (s := q8_1_0) Tryz.underlying68 gsz152 rfl rfl nz22_3 (lt_of_get nz22_3 hz22_3)) (by decide) ?_
  refine VD.q rfl (q_elso (s := q8_1_0) gagg152 rfl rfl hz22_3) (by decide) ?_
  refine VD.q rfl (q_move rfl) (by decide) ?_
  refine VD.q rfl (q_move rfl) (by decide) ?_
  obtain ⟨z26_4, nz26_4, hz26_4, hS⟩ := at_s hS
  refine VD.q rfl (q_ixm (s := b_1) Tryz.underlying68 gsz152 rfl rfl nz26_4 (lt_of_get nz26_4 hz26_4)) (by decide) ?_
  refine VD.q rfl (q_els (s := b_1) gagg152 rfl rfl hz26_4) (by decide) ?_
  refine VD.q rfl (q_stneq geqg152 (geqs152 z22_3.path z22_3.stage z22_3.mode z22_3.data z22_3.time z22_3.size z26_4.path z26_4.stage z26_4.mode z26_4.data z26_4.time z26_4.size) rfl rfl) (by decide) ?_
  refine VD.to (fun _ _ h => h) ?_
  refine VC.keep [1, 5, 6, 28] rfl ?_
  refine VC.cond_ndec rfl (fun h28 => ?_) (fun h28 => ?_)
  ·
   replace hS := it_f h28 hS
   refine Zq (Zr ?_)
   refine Za ?_
   refine Zl ?_
   replace hS := up2 hS hK1
   cases hS
   exact Ze
  replace hS := it_t h28 hS
  refine Zk ?_
  refine Zr ?_
  refine Zm ?_
  obtain ⟨b19, hS⟩ := gd_s hS
  refine VL.q (q_add rfl rfl b19) (by decide) ?_
  refine Za ?_
  refine VL.rnd (i6_2 + 1) [1, 5, 6] (fun _ _ h => h) (go2 hS hK1) rfl
 replace hS := it_f h17 hS
 replace hS := up2 hS hK1
 refine Zx ?_
 refine Zq (Zr ?_)
 refine Za ?_
 refine Zl ?_
 cases hS
 exact Ze
theorem rectoref14_Put_ct (r_0 : Sv Rectoref14File) (f_1 : Rectoref14File) {r : List Rectoref14File} (hS : Sh.rectoref14_Put r_0.l f_1 = some r) :
 Ct Tryz.prog 27 [r_0.val, .agg #[str f_1.path, i64 f_1.mode, str f_1.data]] r_0.ok (Ow.emp) (X := Sv Rectoref14File) (fun x => x.val) (fun x => r = x.l) (fun x => Mo.tt) (fun x => Sv.own x 45) := by
 refine Ct.of Tryz.func27 rfl (by kernel_rfl) Tryz.ntmps27 (by simp) fun c => ?_
 unfold Sh.rectoref14_Put at hS
 refine Zq (Zr ?_)
 refine VL.box (cs := [str f_1.path, i64 f_1.mode, str f_1.data]) rfl rfl (by decide) fun b3_1 => ?_
 refine Za ?_
 refine Zl ?_
 refine Zq (Zr ?_)
 refine Za ?_
 refine Zl ?_
 refine Zq (Zr ?_)
 refine Za ?_
 refine Zl ?_
 refine Zq (Zq (Zr ?_))
 refine Za ?_
 refine Zl ?_
 refine Zb ?_
 refine VC.nilO (⟨none, 0, []⟩ : Sv Rectoref14File) 45 ⟨rfl, rfl⟩ ?_
 refine VC.iter (S := Sv Rectoref14File × Bool × Int) (fun sg => (sg.1.l, sg.2.1, sg.2.2)) (fun sg => [(0, r_0.val), (3, ptr b3_1 0), (5, sg.1.val), (6, .bool sg.2.1), (7, i64 sg.2.2)]) (fun sg => Mo.tt) (fun sg => Ow.star (Blk b3_1 [str f_1.path, i64 f_1.mode, str f_1.data] 45) (Ow.star (Sv.own sg.1 45) (Ow.emp))) (⟨none, 0, []⟩, false, 0) [0, 3, 5, 6, 7] hS rfl ?_
 clear hS
 rintro ⟨out5_2, put6_3, i7_4⟩ m1 y1 hS hK1
 show VC _ _ _ _ _ [(0, r_0.val), (3, ptr b3_1 0), (5, out5_2.val), (6, .bool put6_3), (7, i64 i7_4)] (Mo.and Mo.tt _) (Ow.star (Blk b3_1 [str f_1.path, i64 f_1.mode, str f_1.data] 45) (Ow.star (Sv.own out5_2 45) (Ow.emp)))
 refine Zq (Zq (Zr ?_))
 refine Zm ?_
 refine Zm ?_
 refine VL.q (q_ln (s := r_0) Tryz.underlying48 rfl) (by decide) ?_
 refine VL.q (q_lss rfl rfl) (by decide) ?_
 refine Zl ?_
 refine VC.cond_dec rfl (fun h11 => ?_) (fun h11 => ?_)
 ·
  replace hS := it_t h11 hS
  refine Zk ?_
  refine VC.cutJ (S := Sv Rectoref14File × Bool) (fun sg => (sg.1.l, sg.2)) (fun sg => [(0, r_0.val), (3, ptr b3_1 0), (5, sg.1.val), (6, .bool sg.2), (7, i64 i7_4)]) (fun sg => Mo.tt) (fun sg => Ow.star (Blk b3_1 [str f_1.path, i64 f_1.mode, str f_1.data] 45) (Ow.star (Sv.own sg.1 45) (Ow.emp))) hS ?_ ?_
  ·
   clear hS
   intro k7 hS
   refine Zb ?_
   refine VC.cutJ (S := Sv Rectoref14File × Bool) (fun sg => (sg.1.l, sg.2)) (fun sg => [(0, r_0.val), (3, ptr b3_1 0), (5, sg.1.val), (6, .bool sg.2), (7, i64 i7_4)]) (fun sg => Mo.tt) (fun sg => Ow.star (Blk b3_1 [str f_1.path, i64 f_1.mode, str f_1.data] 45) (Ow.star (Sv.own sg.1 45) (Ow.emp))) hS ?_ ?_
   ·
    clear hS
    intro k10 hS
    refine VC.cutJ (S := Bool) (fun (x25_11 : Bool) => x25_11) (fun (x25_11 : Bool) => [(0, r_0.val), (3, ptr b3_1 0), (5, out5_2.val), (6, .bool put6_3), (7, i64 i7_4), (25, .bool x25_11)]) (fun (x25_11 : Bool) => Mo.tt) (fun (x25_11 : Bool) => Ow.star (Blk b3_1 [str f_1.path, i64 f_1.mode, str f_1.data] 45) (Ow.star (Sv.own out5_2 45) (Ow.emp))) hS ?_ ?_
    ·
     clear hS
     intro k12 hS
     refine VC.draw ((List.range 12).map fun k => (k, true)) mixed (by kernel_rfl) (by kernel_rfl) (by kernel_rfl) ?_
     refine VD.q rfl (q_move rfl) (by decide) ?_
     refine VD.q rfl (q_not rfl) (by decide) ?_
     refine VD.q rfl (q_move rfl) (by decide) ?_
     refine VD.split 16 rfl (fun h16 => ?_) (fun h16 => ?_)
     ·
      replace hS := it_t h16 hS
      refine VD.gy rfl rfl rfl (q_move rfl) (by decide) ?_
      refine VD.gy rfl rfl rfl (q_move rfl) (by decide) ?_
      obtain ⟨z19_13, nz19_13, hz19_13, hS⟩ := at_s hS
      refine VD.gy rfl rfl rfl (q_ixm (s := r_0) Tryz.underlying48 gsz45 rfl rfl nz19_13 (lt_of_get nz19_13 hz19_13)) (by decide) ?_
      refine VD.gy rfl rfl rfl (q_field gfa45_0 rfl) (by decide) ?_
      refine VD.gy rfl rfl rfl (q_elf (s := r_0) gone9 rfl hz19_13 rfl) (by decide) ?_
      refine VD.gy rfl rfl rfl (q_field gfa45_0 rfl) (by decide) ?_
      refine VD.gy rfl rfl rfl (q_fe gone9 rfl rfl) (by decide) ?_
      refine VD.gy rfl rfl rfl (q_sgeq rfl rfl) (by decide) ?_
      refine VD.q rfl (q_pick_t rfl rfl) (by decide) ?_
      refine VD.mt (!Op.bytesLess z19_13.path f_1.path) [0, 3, 5, 6, 7, 25] (fun _ _ h => h) hS rfl
     replace hS := it_b h16 hS
     refine Zd ?_
     refine Zd ?_
     refine Zd ?_
     refine Zd ?_
     refine Zd ?_
     refine Zd ?_
     refine Zd ?_
     refine Zd ?_
     refine VD.q rfl (q_pick_f rfl rfl) (by decide) ?_
     refine VD.mt false [0, 3, 5, 6, 7, 25] (fun _ _ h => h) hS rfl
    clear hS
    rintro x25_11 hS
    show VC _ _ _ _ _ [(0, r_0.val), (3, ptr b3_1 0), (5, out5_2.val), (6, .bool put6_3), (7, i64 i7_4), (25, .bool x25_11)] (Mo.and Mo.tt _) (Ow.star (Blk b3_1 [str f_1.path, i64 f_1.mode, str f_1.data] 45) (Ow.star (Sv.own out5_2 45) (Ow.emp)))
    refine VC.cond rfl (fun h25 => ?_) (fun h25 => ?_)
    ·
     replace hS := it_t h25 hS
     refine Zq (Zr ?_)
     refine Zm ?_
     refine VL.q (q_fes gagg45 rfl rfl) (by decide) ?_
     refine VL.lit (α := Rectoref14File) (xs := [.tmp 27]) (vs := [.agg #[str f_1.path, i64 f_1.mode, str f_1.data]]) [⟨f_1.path, f_1.mode, f_1.data⟩] Tryz.underlying48 glit45 (by decide) rfl rfl rfl rfl (by decide) (fun _ _ _ _ => trivial) (by decide) (fun s28_14 hs28_14 => ?_) (by decide)
     replace hS := lt_to hs28_14 hS
     obtain ⟨b29, hS⟩ := gd_s hS
     refine VL.app (s := out5_2) (r := s28_14) Tryz.underlying48 gapp45 (by decide) rfl Fo.out (ap1 b29) (ap2 b29 (by decide)) (by decide) (fun s29_16 hs29_16 => ?_)
     replace hS := lt_to hs29_16 hS
     refine Za ?_
     refine Zl ?_
     refine Zr ?_
     refine Za ?_
     refine VL.mt (s29_16, true) [0, 3, 5, 6, 7] (fun _ _ h => h) hS rfl
    replace hS := it_b h25 hS
    refine VC.skip_mt (out5_2, put6_3) [0, 3, 5, 6, 7] (fun _ _ h => h) hS rfl
   clear hS
   rintro ⟨out5_8, put6_9⟩ hS
   show VC _ _ _ _ _ [(0, r_0.val), (3, ptr b3_1 0), (5, out5_8.val), (6, .bool put6_9), (7, i64 i7_4)] (Mo.and Mo.tt _) (Ow.star (Blk b3_1 [str f_1.path, i64 f_1.mode, str f_1.data] 45) (Ow.star (Sv.own out5_8 45) (Ow.emp)))
   refine Zq ?_
   refine VC.draw ((List.range 8).map fun k => (k, true)) mixed (by kernel_rfl) (by kernel_rfl) (by kernel_rfl) ?_
   refine VD.q rfl (q_move rfl) (by decide) ?_
   refine VD.q rfl (q_move rfl) (by decide) ?_
   obtain ⟨z32_18, nz32_18, hz32_18, hS⟩ := at_s hS
   refine VD.q rfl (q_ixm (s := r_0) Tryz.underlying48 gsz45 rfl rfl nz32_18 (lt_of_get nz32_18 hz32_18)) (by decide) ?_
   refine VD.q rfl (q_field gfa45_0 rfl) (by decide) ?_
   refine VD.q rfl (q_elf (s := r_0) gone9 rfl hz32_18 rfl) (by decide) ?_
   refine VD.q rfl (q_field gfa45_0 rfl) (by decide) ?_
   refine VD.q rfl (q_fe gone9 rfl rfl) (by decide) ?_
   refine VD.q rfl (q_sne rfl rfl) (by decide) ?_
   refine VD.to (fun _ _ h => h) ?_
   refine VC.keep [0, 3, 5, 6, 7, 37] rfl ?_
   refine VC.cond_ndec rfl (fun h37 => ?_) (fun h37 => ?_)
   ·
    replace hS := it_f h37 hS
    refine Zr ?_
    refine Zm ?_
    refine Zm ?_
    refine Zm ?_
    obtain ⟨z41_19, nz41_19, hz41_19, hS⟩ := at_s hS
    refine VL.q (q_ixm (s := r_0) Tryz.underlying48 gsz45 rfl rfl nz41_19 (lt_of_get nz41_19 hz41_19)) (by decide) ?_
    refine VL.q (q_els (s := r_0) gagg45 rfl rfl hz41_19) (by decide) ?_
    refine VL.lit (α := Rectoref14File) (xs := [.tmp 42]) (vs := [.agg #[str z41_19.path, i64 z41_19.mode, str z41_19.data]]) [⟨z41_19.path, z41_19.mode, z41_19.data⟩] Tryz.underlying48 glit45 (by decide) rfl rfl rfl rfl (by decide) (fun _ _ _ _ => trivial) (by decide) (fun s43_20 hs43_20 => ?_) (by decide)
    replace hS := lt_to hs43_20 hS
    obtain ⟨b44, hS⟩ := gd_s hS
    refine VL.app (s := out5_8) (r := s43_20) Tryz.underlying48 gapp45 (by decide) rfl Fo.out (ap1 b44) (ap2 b44 (by decide)) (by decide) (fun s44_22 hs44_22 => ?_)
    replace hS := lt_to hs44_22 hS
    refine Za ?_
    refine VL.mt (s44_22, put6_9) [0, 3, 5, 6, 7] (fun _ _ h => h) hS rfl
   replace hS := it_t h37 hS
   refine VC.skip_mt (out5_8, put6_9) [0, 3, 5, 6, 7] (fun _ _ h => h) hS rfl
  clear hS
  rintro ⟨out5_5, put6_6⟩ hS
  show VC _ _ _ _ _ [(0, r_0.val), (3, ptr b3_1 0), (5, out5_5.val), (6, .bool put6_6), (7, i64 i7_4)] (Mo.and Mo.tt _) (Ow.star (Blk b3_1 [str f_1.path, i64 f_1.mode, str f_1.data] 45) (Ow.star (Sv.own out5_5 45) (Ow.emp)))
  refine Zr ?_
  refine Zm ?_
  obtain ⟨b13, hS⟩ := gd_s hS
  refine VL.q (q_add rfl rfl b13) (by decide) ?_
  refine Za ?_
  refine VL.rnd (out5_5, put6_6, (i7_4 + 1)) [0, 3, 5, 6, 7] (fun _ _ h => h) (go2 hS hK1) rfl
 replace hS := it_f h11 hS
 replace hS := up2 hS hK1
 refine Zx ?_
 refine Zq (Zq (Zr ?_))
 refine Zm ?_
 refine VL.q (q_not rfl) (by decide) ?_
 refine Zl ?_
 refine VC.keep [3, 5, 46] rfl ?_
 refine VC.cond rfl (fun h46 => ?_) (fun h46 => ?_)
 ·
  replace hS := it_t h46 hS
  refine Zr ?_
  refine Zm ?_
  refine VL.q (q_fes gagg45 rfl rfl) (by decide) ?_
  refine VL.lit (α := Rectoref14File) (xs := [.tmp 48]) (vs := [.agg #[str f_1.path, i64 f_1.mode, str f_1.data]]) [⟨f_1.path, f_1.mode, f_1.data⟩] Tryz.underlying48 glit45 (by decide) rfl rfl rfl rfl (by decide) (fun _ _ _ _ => trivial) (by decide) (fun s49_24 hs49_24 => ?_) (by decide)
  replace hS := lt_to hs49_24 hS
  obtain ⟨b50, hS⟩ := gd_s hS
  refine VL.app (s := out5_2) (r := s49_24) Tryz.underlying48 gapp45 (by decide) rfl Fo.out (ap1 b50) (ap2 b50 (by decide)) (by decide) (fun s50_26 hs50_26 => ?_)
  replace hS := lt_to hs50_26 hS
  refine Za ?_
  refine Zl ?_
  refine Zq (Zr ?_)
  refine Zm ?_
  refine Za ?_
  refine Zl ?_
  cases hS
  exact VC.ret (fin1 (.inr rfl) rfl rfl s50_26 rfl rfl (by (try dsimp only); exact InM.out) (by (try dsimp only); exact EntO.out))
 replace hS := it_b h46 hS
 refine Zk ?_
 refine Zq (Zr ?_)
 refine Zm ?_
 refine Za ?_
 refine Zl ?_
 cases hS
 exact VC.ret (fin1 (.inr rfl) rfl rfl out5_2 rfl rfl (by (try dsimp only); exact InM.out) (by (try dsimp only); exact EntO.out))
theorem rectoref14_Paths_ct (l_0 : Sv (Sv Rectoref14File)) {r : List Str} (hS : Sh.rectoref14_Paths (l_0.l.map Sv.l) = some r) :
 Ct Tryz.prog 105 [l_0.val] l_0.ok (Ow.emp) (X := Sv Str) (fun x => x.val) (fun x => r = x.l) (fun x => Mo.tt) (fun x => Sv.own x 9) := by
 refine Ct.of Tryz.func105 rfl (by kernel_rfl) Tryz.ntmps105 (by simp) fun c => ?_
 unfold Sh.rectoref14_Paths at hS
 refine Zq (Zr ?_)
 refine Za ?_
 refine Zl ?_
 refine Zq (Zr ?_)
 refine Za ?_
 refine Zl ?_
 refine Zq (Zq (Zr ?_))
 refine Za ?_
 refine Zl ?_
 refine Zb ?_
 refine VC.nilO (⟨none, 0, []⟩ : Sv Rectoref14File) 45 ⟨rfl, rfl⟩ ?_
 refine VC.iter (S := Sv Rectoref14File × Int) (fun sg => (sg.1.l, sg.2)) (fun sg => [(0, l_0.val), (3, sg.1.val), (4, i64 sg.2)]) (fun sg => Mo.tt) (fun sg => Ow.star (Sv.own sg.1 45) (Ow.emp)) (⟨none, 0, []⟩, 0) [0, 3, 4] hS rfl ?_
 clear hS
 rintro ⟨r3_1, i4_2⟩ m1 y1 hS hK1
 show VC _ _ _ _ _ [(0, l_0.val), (3, r3_1.val), (4, i64 i4_2)] (Mo.and Mo.tt _) (Ow.star (Sv.own r3_1 45) (Ow.emp))
 refine Zq (Zq (Zr ?_))
 refine Zm ?_
 refine Zm ?_
 refine VL.q (q_lnm Sv.l (s := l_0) Tryz.underlying170 rfl) (by decide) ?_
 refine VL.q (q_lss rfl rfl) (by decide) ?_
 refine Zl ?_
 refine VC.cond_dec rfl (fun h11 => ?_) (fun h11 => ?_)
 ·
  replace hS := it_t h11 hS
  refine Zk ?_
  refine Zq (Zb (Zq (Zr ?_)))
  refine Za ?_
  refine Zl ?_
  refine Zb ?_
  refine VC.iter (S := Sv Rectoref14File × Int) (fun sg => (sg.1.l, sg.2)) (fun sg => [(0, l_0.val), (3, sg.1.val), (4, i64 i4_2), (5, i64 sg.2)]) (fun sg => Mo.tt) (fun sg => Ow.star (Sv.own sg.1 45) (Ow.emp)) (r3_1, 0) [0, 3, 4, 5] hS rfl ?_
  clear hS
  rintro ⟨r3_3, k5_4⟩ m2 y2 hS hK2
  show VC _ _ _ _ _ [(0, l_0.val), (3, r3_3.val), (4, i64 i4_2), (5, i64 k5_4)] (Mo.and Mo.tt _) (Ow.star (Sv.own r3_3 45) (Ow.emp))
  refine Zq (Zq (Zr ?_))
  refine Zm ?_
  refine Zm ?_
  refine Zm ?_
  obtain ⟨z17_5, nz17_5, hz17_5, hS⟩ := atm_s hS
  refine VL.deep z17_5.ok hz17_5 (fun _ q => q) ?_
  refine VL.q (q_ixm (s := l_0) Tryz.underlying170 gsz48 rfl rfl nz17_5 (lt_of_get nz17_5 hz17_5)) (by decide) ?_
  refine VL.q (q_el (s := l_0) gone48 rfl hz17_5 rfl) (by decide) ?_
  refine VL.q (q_ln (s := z17_5) Tryz.underlying48 rfl) (by decide) ?_
  refine VL.q (q_lss rfl rfl) (by decide) ?_
  refine Zl ?_
  refine VC.cond_dec rfl (fun h20 => ?_) (fun h20 => ?_)
  ·
   replace hS := it_t h20 hS
   refine Zk ?_
   refine VC.keep [0, 3, 4, 5] rfl ?_
   refine Zq (Zb (Zr ?_))
   refine Zm ?_
   refine Zm ?_
   refine Zm ?_
   obtain ⟨z26_6, nz26_6, hz26_6, hS⟩ := atm_s hS
   refine VL.deep z26_6.ok hz26_6 (fun _ q => q) ?_
   refine VL.q (q_ixm (s := l_0) Tryz.underlying170 gsz48 rfl rfl nz26_6 (lt_of_get nz26_6 hz26_6)) (by decide) ?_
   refine VL.q (q_el (s := l_0) gone48 rfl hz26_6 rfl) (by decide) ?_
   refine Zm ?_
   obtain ⟨z29_7, nz29_7, hz29_7, hS⟩ := at_s hS
   refine VL.q (q_ixm (s := z26_6) Tryz.underlying48 gsz45 rfl rfl nz29_7 (lt_of_get nz29_7 hz29_7)) (by decide) ?_
   refine VL.q (q_field gfa45_0 rfl) (by decide) ?_
   refine VL.q (q_elf (s := z26_6) gone9 rfl hz29_7 rfl) (by decide) ?_
   refine VL.q (q_build (vs := [(0, str z29_7.path)]) (cs := #[str z29_7.path, i64 0, str []]) rfl (by kernel_rfl)) (by decide) ?_
   obtain ⟨y33_8, ey33_8, hS⟩ := bd_s hS
   refine VL.callOR (rectoref14_Put_ct r3_3 (⟨z29_7.path, 0, []⟩ : Rectoref14File) ey33_8) rfl (by decide) ?_
   rintro q33_8_0 rfl
   try dsimp only
   refine Za ?_
   refine Zl ?_
   refine VC.keep [0, 3, 4, 5] rfl ?_
   refine Zr ?_
   refine Zm ?_
   obtain ⟨b22, hS⟩ := gd_s hS
   refine VL.q (q_add rfl rfl b22) (by decide) ?_
   refine Za ?_
   refine VL.rnd (q33_8_0, (k5_4 + 1)) [0, 3, 4, 5] (fun _ _ h => h) (go2 hS hK2) rfl
  replace hS := it_f h20 hS
  replace hS := up2 hS hK2
  refine Zx ?_
  refine VC.keep [0, 3, 4] rfl ?_
  refine Zr ?_
  refine Zm ?_
  obtain ⟨b13, hS⟩ := gd_s hS
  refine VL.q (q_add rfl rfl b13) (by decide) ?_
  refine Za ?_
  refine VL.rnd (r3_3, (i4_2 + 1)) [0, 3, 4] (fun _ _ h => h) (go2 hS hK1) rfl
 replace hS := it_f h11 hS
 replace hS := up2 hS hK1
 refine Zx ?_
 refine Zq (Zr ?_)
 refine Za ?_
 refine Zl ?_
 refine Zq (Zq (Zr ?_))
 refine Za ?_
 refine Zl ?_
 refine Zb ?_
 refine VC.nilO (⟨none, 0, []⟩ : Sv Str) 9 ⟨rfl, rfl⟩ ?_
 refine VC.iter (S := Sv Str × Int) (fun sg => (sg.1.l, sg.2)) (fun sg => [(3, r3_1.val), (6, sg.1.val), (7, i64 sg.2)]) (fun sg => Mo.tt) (fun sg => Ow.star (Sv.own r3_1 45) (Ow.star (Sv.own sg.1 9) (Ow.emp))) (⟨none, 0, []⟩, 0) [3, 6, 7] hS rfl ?_
 clear hS
 rintro ⟨out6_9, i7_10⟩ m1 y1 hS hK1
 show VC _ _ _ _ _ [(3, r3_1.val), (6, out6_9.val), (7, i64 i7_10)] (Mo.and Mo.tt _) (Ow.star (Sv.own r3_1 45) (Ow.star (Sv.own out6_9 9) (Ow.emp)))
 refine Zq (Zq (Zr ?_))
 refine Zm ?_
 refine Zm ?_
 refine VL.q (q_ln (s := r3_1) Tryz.underlying48 rfl) (by decide) ?_
 refine VL.q (q_lss rfl rfl) (by decide) ?_
 refine Zl ?_
 refine VC.cond_dec rfl (fun h37 => ?_) (fun h37 => ?_)
 ·
  replace hS := it_t h37 hS
  refine Zk ?_
  refine Zq (Zb (Zr ?_))
  refine Zm ?_
  refine Zm ?_
  refine Zm ?_
  obtain ⟨z43_11, nz43_11, hz43_11, hS⟩ := at_s hS
  refine VL.q (q_ixo (s := r3_1) Tryz.underlying48 gsz45 rfl rfl nz43_11 (lt_of_get nz43_11 hz43_11)) (by decide) ?_
  refine VL.q (q_field gfa45_0 rfl) (by decide) ?_
  refine VL.q (q_elfo (s := r3_1) gone9 rfl hz43_11 rfl) (by decide) ?_
  refine VL.lit (α := Str) (xs := [.tmp 45]) (vs := [str z43_11.path]) [z43_11.path] Tryz.underlying82 glit9 (by decide) rfl rfl rfl rfl (by decide) (fun _ _ _ _ => trivial) (by decide) (fun s46_12 hs46_12 => ?_) (by decide)
  replace hS := lt_to hs46_12 hS
  obtain ⟨b47, hS⟩ := gd_s hS
  refine VL.app (s := out6_9) (r := s46_12) Tryz.underlying82 gapp9 (by decide) rfl Fo.out (ap1 b47) (ap2 b47 (by decide)) (by decide) (fun s47_14 hs47_14 => ?_)
  replace hS := lt_to hs47_14 hS
  refine Za ?_
  refine Zl ?_
  refine VC.keep [3, 6, 7] rfl ?_
  refine Zr ?_
  refine Zm ?_
  obtain ⟨b39, hS⟩ := gd_s hS
  refine VL.q (q_add rfl rfl b39) (by decide) ?_
  refine Za ?_
  refine VL.rnd (s47_14, (i7_10 + 1)) [3, 6, 7] (fun _ _ h => h) (go2 hS hK1) rfl
 replace hS := it_f h37 hS
 replace hS := up2 hS hK1
 refine Zx ?_
 refine Zq (Zr ?_)
 refine Zm ?_
 refine Za ?_
 refine Zl ?_
 cases hS
 exact VC.ret (fin1 (.inr rfl) rfl rfl out6_9 rfl rfl (by (try dsimp only); exact InM.out) (by (try dsimp only); exact EntO.out))
theorem rectoref14_Conflicts_ct (l_0 : Sv Rectoref14Entry) {r : List Str} (hS : Sh.rectoref14_Conflicts l_0.l = some r) :
 Ct Tryz.prog 45 [l_0.val] l_0.ok (Ow.emp) (X := Sv Str) (fun x => x.val) (fun x => r = x.l) (fun x => Mo.tt) (fun x => Sv.own x 9) := by
 refine Ct.of Tryz.func45 rfl (by kernel_rfl) Tryz.ntmps45 (by simp) fun c => ?_
 unfold Sh.rectoref14_Conflicts at hS
 refine Zq (Zr ?_)
 refine Za ?_
 refine Zl ?_
 refine Zq (Zr ?_)
 refine Zm ?_
 obtain ⟨y4_1, ey4_1, hS⟩ := bd_s hS
 refine VL.callO (rectoref14_Stage_ct l_0 1 ey4_1) rfl (by decide) ?_
 rintro q4_1_0 rfl
 try dsimp only
 refine Zm ?_
 obtain ⟨y6_2, ey6_2, hS⟩ := bd_s hS
 refine VL.callO (rectoref14_Stage_ct l_0 2 ey6_2) rfl (by decide) ?_
 rintro q6_2_0 rfl
 try dsimp only
 refine Zm ?_
 obtain ⟨y8_3, ey8_3, hS⟩ := bd_s hS
 refine VL.callO (rectoref14_Stage_ct l_0 3 ey8_3) rfl (by decide) ?_
 rintro q8_3_0 rfl
 try dsimp only
 refine VL.shut q4_1_0 45 (fun _ _ _ _ => trivial) ?_
 refine VL.shut q6_2_0 45 (fun _ _ _ _ => trivial) ?_
 refine VL.shut q8_3_0 45 (fun _ _ _ _ => trivial) ?_
 refine VL.lit (α := Sv Rectoref14File) (xs := [.tmp 4, .tmp 6, .tmp 8]) (vs := [q4_1_0.val, q6_2_0.val, q8_3_0.val]) [q4_1_0, q6_2_0, q8_3_0] Tryz.underlying170 glit48 (by decide) rfl rfl rfl rfl (by decide) (fun h m => List.forall_mem_cons.2 ⟨InM.out (X := q4_1_0.ok) h m, List.forall_mem_cons.2 ⟨InM.out (X := q6_2_0.ok) h m, List.forall_mem_cons.2 ⟨InM.out (X := q8_3_0.ok) h m, fun _ h => by cases h⟩⟩⟩) (by decide) (fun s9_4 hs9_4 => ?_) (by decide)
 replace hS := lt_to (congrArg (List.map Sv.l) hs9_4) hS
 obtain ⟨y10_6, ey10_6, hS⟩ := bd_s hS
 refine VL.callO (rectoref14_Paths_ct s9_4 ey10_6) rfl (by decide) ?_
 rintro q10_6_0 rfl
 try dsimp only
 refine Za ?_
 refine Zl ?_
 cases hS
 exact VC.ret (fin1 (.inr rfl) rfl rfl q10_6_0 rfl rfl (by (try dsimp only); exact InM.out) (by (try dsimp only); exact EntO.out))
theorem rectolaw1_texts_ct (a_0 : Sv Str) (b_1 : Sv Str) {r : Bool} (hS : Sh.rectolaw1_texts a_0.l b_1.l = some r) :
 Ct Tryz.prog 101 [a_0.val, b_1.val] (a_0.ok.and b_1.ok) (Ow.emp) (X := Unit) (fun _ => .bool r) (fun _ => True) (fun _ => Mo.tt) (fun _ => Ow.emp) := by
 refine Ct.of Tryz.func101 rfl (by kernel_rfl) Tryz.ntmps101 (by simp) fun c => ?_
 unfold Sh.rectolaw1_texts at hS
 refine Zq (Zr ?_)
 refine Za ?_
 refine Zl ?_
 refine Zq (Zq (Zr ?_))
 refine Zm ?_
 refine VL.q (q_ln (s := a_0) Tryz.underlying82 rfl) (by decide) ?_
 refine Zm ?_
 refine VL.q (q_ln (s := b_1) Tryz.underlying82 rfl) (by decide) ?_
 refine VL.q (q_neq rfl rfl) (by decide) ?_
 refine Zl ?_
 refine VC.cond_ndec rfl (fun h10 => ?_) (fun h10 => ?_)
 ·
  replace hS := it_f h10 hS
  refine Zq (Zr ?_)
  refine Za ?_
  refine Zl ?_
  cases hS
  exact Ze
 replace hS := it_t h10 hS
 refine Zk ?_
 refine Zq (Zq (Zr ?_))
 refine Za ?_
 refine Zl ?_
 refine Zb ?_
 refine VC.iter (S := Int) (fun (i5_1 : Int) => i5_1) (fun (i5_1 : Int) => [(0, a_0.val), (1, b_1.val), (5, i64 i5_1)]) (fun (i5_1 : Int) => Mo.tt) (fun (i5_1 : Int) => Ow.emp) 0 [0, 1, 5] hS rfl ?_
 clear hS
 rintro i5_1 m1 y1 hS hK1
 show VC _ _ _ _ _ [(0, a_0.val), (1, b_1.val), (5, i64 i5_1)] (Mo.and Mo.tt _) (Ow.emp)
 refine Zq (Zq (Zr ?_))
 refine Zm ?_
 refine Zm ?_
 refine VL.q (q_ln (s := a_0) Tryz.underlying82 rfl) (by decide) ?_
 refine VL.q (q_lss rfl rfl) (by decide) ?_
 refine Zl ?_
 refine VC.cond_dec rfl (fun h14 => ?_) (fun h14 => ?_)
 ·
  replace hS := it_t h14 hS
  refine Zk ?_
  refine Zq (Zb (Zq ?_))
  refine VC.draw ((List.range 9).map fun k => (k, true)) mixed (by kernel_rfl) (by kernel_rfl) (by kernel_rfl) ?_
  refine VD.q rfl (q_move rfl) (by decide) ?_
  refine VD.q rfl (q_move rfl) (by decide) ?_
  obtain ⟨z19_2, nz19_2, hz19_2, hS⟩ := at_s hS
  refine VD.q rfl (q_ixm (s := a_0) Tryz.underlying82 gsz9 rfl rfl nz19_2 (lt_of_get nz19_2 hz19_2)) (by decide) ?_
  refine VD.q rfl (q_el (s := a_0) gone9 rfl hz19_2 rfl) (by decide) ?_
  refine VD.q rfl (q_move rfl) (by decide) ?_
  refine VD.q rfl (q_move rfl) (by decide) ?_
  obtain ⟨z23_3, nz23_3, hz23_3, hS⟩ := at_s hS
  refine VD.q rfl (q_ixm (s := b_1) Tryz.underlying82 gsz9 rfl rfl nz23_3 (lt_of_get nz23_3 hz23_3)) (by decide) ?_
  refine VD.q rfl (q_el (s := b_1) gone9 rfl hz23_3 rfl) (by decide) ?_
  refine VD.q rfl (q_sne rfl rfl) (by decide) ?_
  refine VD.to (fun _ _ h => h) ?_
  refine VC.keep [0, 1, 5, 25] rfl ?_
  refine VC.cond_ndec rfl (fun h25 => ?_) (fun h25 => ?_)
  ·
   replace hS := it_f h25 hS
   refine Zq (Zr ?_)
   refine Za ?_
   refine Zl ?_
   replace hS := up2 hS hK1
   cases hS
   exact Ze
  replace hS := it_t h25 hS
  refine Zk ?_
  refine Zr ?_
  refine Zm ?_
  obtain ⟨b16, hS⟩ := gd_s hS
  refine VL.q (q_add rfl rfl b16) (by decide) ?_
  refine Za ?_
  refine VL.rnd (i5_1 + 1) [0, 1, 5] (fun _ _ h => h) (go2 hS hK1) rfl
 replace hS := it_f h14 hS
 replace hS := up2 hS hK1
 refine Zx ?_
 refine Zq (Zr ?_)
 refine Za ?_
 refine Zl ?_
 cases hS
 exact Ze
theorem rectolaw1_Texts_ct (a_0 : Sv Str) (b_1 : Sv Str) {r : Bool} (hS : Sh.rectolaw1_Texts a_0.l b_1.l = some r) :
 Ct Tryz.prog 43 [a_0.val, b_1.val] (a_0.ok.and b_1.ok) (Ow.emp) (X := Unit) (fun _ => .bool r) (fun _ => True) (fun _ => Mo.tt) (fun _ => Ow.emp) := by
 refine Ct.of Tryz.func43 rfl (by kernel_rfl) Tryz.ntmps43 (by simp) fun c => ?_
 unfold Sh.rectolaw1_Texts at hS
 refine Zq (Zr ?_)
 refine Za ?_
 refine Zl ?_
 refine Zq (Zr ?_)
 refine Zm ?_
 refine Zm ?_
 obtain ⟨y7_1, ey7_1, hS⟩ := bd_s hS
 refine VL.q (q_call (rectolaw1_texts_ct a_0 b_1 ey7_1) rfl (fun _ _ => rfl)) (by decide) ?_
 refine Za ?_
 refine Zl ?_
 cases hS
 exact Ze
theorem rectolaw15_IndexAny_ct (l_0 : Sv IndexEntry) {r : Bool} (hS : Sh.rectolaw15_IndexAny l_0.l = some r) :
 Ct Tryz.prog 6 [l_0.val] (l_0.ok.and Gl) (Ow.emp) (X := Unit) (fun _ => .bool r) (fun _ => True) (fun _ => Mo.tt) (fun _ => Ow.emp) := by
 refine Ct.of Tryz.func6 rfl (by kernel_rfl) Tryz.ntmps6 (by simp) fun c => ?_
 unfold Sh.rectolaw15_IndexAny at hS
 refine Zq (Zr ?_)
 refine Za ?_
 refine Zl ?_
 refine Zq (Zq (Zr ?_))
 obtain ⟨y12_1, ey12_1, hS⟩ := bd_s hS
 refine VL.q (q_call (rectolaw15_known_ct ey12_1) rfl (fun _ _ => rfl)) (by decide) ?_
 refine VL.q (q_not rfl) (by decide) ?_
 refine Zl ?_
 refine VC.cond rfl (fun h13 => ?_) (fun h13 => ?_)
 ·
  replace hS := it_t h13 hS
  refine Zq (Zr ?_)
  refine Za ?_
  refine Zl ?_
  cases hS
  exact Ze
 replace hS := it_b h13 hS
 refine Zk ?_
 refine Zq (Zq (Zr ?_))
 refine Zm ?_
 obtain ⟨y15_2, ey15_2, hS⟩ := bd_s hS
 refine VL.q (q_call (rectolaw15_Few_ct l_0 ey15_2) rfl (fun _ _ => rfl)) (by decide) ?_
 refine VL.q (q_not rfl) (by decide) ?_
 refine Zl ?_
 refine VC.cond rfl (fun h16 => ?_) (fun h16 => ?_)
 ·
  replace hS := it_t h16 hS
  refine Zq (Zr ?_)
  refine Za ?_
  refine Zl ?_
  cases hS
  exact Ze
 replace hS := it_b h16 hS
 refine Zk ?_
 refine Zq (Zr ?_)
 refine Zm ?_
 obtain ⟨y18_3, ey18_3, hS⟩ := bd_s hS
 refine VL.callO (rectolaw15_Of_ct l_0 ey18_3) rfl (by decide) ?_
 rintro q18_3_0 rfl
 try dsimp only
 refine Za ?_
 refine Zl ?_
 refine Zq (Zr ?_)
 refine Zm ?_
 refine VL.shut q18_3_0 152 (fun _ _ _ _ => trivial) ?_
 obtain ⟨y20_4, ey20_4, hS⟩ := bd_s hS
 refine VL.callF (rectoref14_CheckIndex_ct q18_3_0 ey20_4) rfl (by decide) ?_
 rintro q20_4_0 rfl
 try dsimp only
 refine VL.alloc (cs := [.slice none 0 0, i64 0]) (by kernel_rfl) (by decide) fun b4_5 => ?_
 refine VL.store (vc := [q20_4_0.parts.val, i64 q20_4_0.err]) (cs' := [q20_4_0.parts.val, i64 q20_4_0.err]) rfl rfl rfl gsz54 rfl rfl (Nat.le_of_ble_eq_true rfl) rfl ?_
 refine Zl ?_
 refine VC.keep [0, 3, 4] rfl ?_
 refine Zq (Zr ?_)
 refine Zm ?_
 obtain ⟨y23_6, ey23_6, hS⟩ := bd_s hS
 refine VL.callO (index_Encode_ct l_0 ey23_6) rfl (by decide) ?_
 rintro ⟨q23_6_0, q23_6_1⟩ rfl
 try dsimp only
 refine Zm ?_
 refine VL.q (q_extract rfl rfl) (by decide) ?_
 refine VL.q (q_extract rfl rfl) (by decide) ?_
 refine Za ?_
 refine Za ?_
 refine Zl ?_
 refine Zq (Zr ?_)
 refine Zm ?_
 obtain ⟨y28_7, ey28_7, hS⟩ := bd_s hS
 refine VL.callO (rectoref14_Encode_ct q18_3_0 ey28_7) rfl (by decide) ?_
 rintro ⟨q28_7_0, q28_7_1⟩ rfl
 try dsimp only
 refine Zm ?_
 refine VL.q (q_extract rfl rfl) (by decide) ?_
 refine VL.q (q_extract rfl rfl) (by decide) ?_
 refine VL.alloc (cs := [.slice none 0 0, i64 0]) (by kernel_rfl) (by decide) fun b8_8 => ?_
 refine Za ?_
 refine VL.store (vc := [q28_7_1.parts.val, i64 q28_7_1.err]) (cs' := [q28_7_1.parts.val, i64 q28_7_1.err]) rfl rfl rfl gsz54 rfl rfl (Nat.le_of_ble_eq_true rfl) rfl ?_
 refine Zl ?_
 refine VC.keep [0, 3, 4, 5, 6, 8, 7] rfl ?_
 refine Zq ?_
 refine VC.cutJ (S := Bool) (fun (x48_9 : Bool) => x48_9) (fun (x48_9 : Bool) => [(0, l_0.val), (3, q18_3_0.val), (4, ptr b4_5 0), (5, q23_6_0.val), (48, .bool x48_9)]) (fun (x48_9 : Bool) => Mo.tt) (fun (x48_9 : Bool) => Ow.star (Blk b8_8 [q28_7_1.parts.val, i64 q28_7_1.err] 54) (Ow.star (Blk b4_5 [q20_4_0.parts.val, i64 q20_4_0.err] 54) (Ow.star (Sv.own q23_6_0 5) (Ow.emp)))) hS ?_ ?_
 ·
  clear hS
  intro k10 hS
  refine VC.draw [(0, true), (2, true), (1, false), (3, true), (4, true), (5, true), (6, true), (7, true), (8, true), (9, true), (10, true), (11, true), (12, true), (13, true), (14, true), (15, true), (16, true), (17, true)] mixed (by kernel_rfl) (by kernel_rfl) (by kernel_rfl) ?_
  refine VD.q rfl (q_move rfl) (by decide) ?_
  refine VD.q rfl (q_fes gagg54 rfl rfl) (by decide) ?_
  refine VD.one rfl ?_
  obtain ⟨y32_11, ey32_11, hS⟩ := bd_s hS
  refine VL.callF (index_Check_ct l_0 ey32_11) rfl (by decide) ?_
  rintro q32_11_0 rfl
  try dsimp only
  refine VL.back (D' := [(2, .agg #[q20_4_0.parts.val, i64 q20_4_0.err])]) (by kernel_rfl) (Pend.cons rfl (q_fes gagg54 rfl rfl) (Pend.nil)) ?_
  obtain ⟨y34_12, ey34_12, hS⟩ := bd_s hS
  refine VD.q rfl (q_call (rectolaw2_Tells_ct q32_11_0 q20_4_0 ey34_12) rfl (fun _ _ => rfl)) (by decide) ?_
  refine VD.q rfl (q_not rfl) (by decide) ?_
  refine VD.q rfl (q_move rfl) (by decide) ?_
  refine VD.split 36 rfl (fun h36 => ?_) (fun h36 => ?_)
  ·
   replace hS := it_t h36 hS
   refine Zd ?_
   refine Zd ?_
   refine Zd ?_
   refine Zd ?_
   refine VD.q rfl (q_pick_t rfl rfl) (by decide) ?_
   refine VD.q rfl (q_move rfl) (by decide) ?_
   refine Zd ?_
   refine Zd ?_
   refine Zd ?_
   refine Zd ?_
   refine Zd ?_
   refine VD.q rfl (q_pick_t rfl rfl) (by decide) ?_
   refine VD.mt true [0, 3, 4, 5, 48] (fun _ _ h => h) hS rfl
  replace hS := it_b h36 hS
  refine VD.gy rfl rfl rfl (q_move rfl) (by decide) ?_
  refine VD.gy rfl rfl rfl (q_fes gagg54 rfl rfl) (by decide) ?_
  obtain ⟨y39_13, ey39_13, hS⟩ := bd_s hS
  refine VD.gy rfl rfl rfl (q_call (rectolaw2_Tells_ct q23_6_1 q28_7_1 ey39_13) rfl (fun _ _ => rfl)) (by decide) ?_
  refine VD.gy rfl rfl rfl (q_not rfl) (by decide) ?_
  refine VD.q rfl (q_pick_f rfl rfl) (by decide) ?_
  refine VD.q rfl (q_move rfl) (by decide) ?_
  refine VD.split 42 rfl (fun h42 => ?_) (fun h42 => ?_)
  ·
   replace hS := it_t h42 hS
   refine Zd ?_
   refine Zd ?_
   refine Zd ?_
   refine Zd ?_
   refine Zd ?_
   refine VD.q rfl (q_pick_t rfl rfl) (by decide) ?_
   refine VD.mt true [0, 3, 4, 5, 48] (fun _ _ h => h) hS rfl
  replace hS := it_b h42 hS
  refine VD.gy rfl rfl rfl (q_move rfl) (by decide) ?_
  refine VD.gy rfl rfl rfl (q_b2s (s := q23_6_0) Tryz.underlying27 Tryz.underlying5 Tryz.underlying9 rfl) (by decide) ?_
  refine VD.gy rfl rfl rfl (q_move rfl) (by decide) ?_
  refine VD.gy rfl rfl rfl (q_b2s (s := q28_7_0) Tryz.underlying27 Tryz.underlying5 Tryz.underlying9 rfl) (by decide) ?_
  refine VD.gy rfl rfl rfl (q_sne rfl rfl) (by decide) ?_
  refine VD.q rfl (q_pick_f rfl rfl) (by decide) ?_
  refine VD.mt (!decide (q23_6_0.l = q28_7_0.l)) [0, 3, 4, 5, 48] (fun _ _ h => h) hS rfl
 clear hS
 rintro x48_9 hS
 show VC _ _ _ _ _ [(0, l_0.val), (3, q18_3_0.val), (4, ptr b4_5 0), (5, q23_6_0.val), (48, .bool x48_9)] (Mo.and Mo.tt _) (Ow.star (Blk b8_8 [q28_7_1.parts.val, i64 q28_7_1.err] 54) (Ow.star (Blk b4_5 [q20_4_0.parts.val, i64 q20_4_0.err] 54) (Ow.star (Sv.own q23_6_0 5) (Ow.emp))))
 refine VC.cond rfl (fun h48 => ?_) (fun h48 => ?_)
 ·
  replace hS := it_t h48 hS
  refine Zq (Zr ?_)
  refine Za ?_
  refine Zl ?_
  cases hS
  exact Ze
 replace hS := it_b h48 hS
 refine Zk ?_
 refine Zq (Zq (Zr ?_))
 refine VL.q (q_field gfa54_1 rfl) (by decide) ?_
 refine VL.q (q_fe gone3 rfl rfl) (by decide) ?_
 refine VL.q (q_neq rfl rfl) (by decide) ?_
 refine Zl ?_
 refine VC.cond_ndec rfl (fun h51 => ?_) (fun h51 => ?_)
 ·
  replace hS := it_f h51 hS
  refine Zq (Zr ?_)
  refine Za ?_
  refine Zl ?_
  cases hS
  exact Ze
 replace hS := it_t h51 hS
 refine Zk ?_
 refine Zq (Zq (Zr ?_))
 refine Za ?_
 refine Zl ?_
 refine Zb ?_
 refine VC.iter (S := Int) (fun (n9_14 : Int) => n9_14) (fun (n9_14 : Int) => [(0, l_0.val), (3, q18_3_0.val), (5, q23_6_0.val), (9, i64 n9_14)]) (fun (n9_14 : Int) => Mo.tt) (fun (n9_14 : Int) => Ow.star (Blk b8_8 [q28_7_1.parts.val, i64 q28_7_1.err] 54) (Ow.star (Blk b4_5 [q20_4_0.parts.val, i64 q20_4_0.err] 54) (Ow.star (Sv.own q23_6_0 5) (Ow.emp)))) 0 [0, 3, 5, 9] hS rfl ?_
 clear hS
 rintro n9_14 m1 y1 hS hK1
 show VC _ _ _ _ _ [(0, l_0.val), (3, q18_3_0.val), (5, q23_6_0.val), (9, i64 n9_14)] (Mo.and Mo.tt _) (Ow.star (Blk b8_8 [q28_7_1.parts.val, i64 q28_7_1.err] 54) (Ow.star (Blk b4_5 [q20_4_0.parts.val, i64 q20_4_0.err] 54) (Ow.star (Sv.own q23_6_0 5) (Ow.emp))))
 refine Zq (Zq (Zr ?_))
 refine Zm ?_
 refine VL.q (q_lss rfl rfl) (by decide) ?_
 refine Zl ?_
 refine VC.cond_dec rfl (fun h53 => ?_) (fun h53 => ?_)
 ·
  replace hS := it_t h53 hS
  refine Zk ?_
  refine Zq (Zb (Zq (Zr ?_)))
  refine Zm ?_
  refine Zm ?_
  obtain ⟨y58_15, ey58_15, hS⟩ := bd_s hS
  refine VL.callF (index_Stage_ct l_0 n9_14 ey58_15) rfl (by decide) ?_
  rintro q58_15_0 rfl
  try dsimp only
  obtain ⟨y59_16, ey59_16, hS⟩ := bd_s hS
  refine VL.callO (rectolaw14_Of_ct q58_15_0 ey59_16) rfl (by decide) ?_
  rintro q59_16_0 rfl
  try dsimp only
  refine Zm ?_
  refine Zm ?_
  obtain ⟨y62_17, ey62_17, hS⟩ := bd_s hS
  refine VL.callO (rectoref14_Stage_ct q18_3_0 n9_14 ey62_17) rfl (by decide) ?_
  rintro q62_17_0 rfl
  try dsimp only
  obtain ⟨y63_18, ey63_18, hS⟩ := bd_s hS
  refine VL.q (q_callR (rectoref14_Same_ct q59_16_0 q62_17_0 ey63_18) rfl (fun _ _ => rfl)) (by decide) ?_
  refine VL.q (q_not rfl) (by decide) ?_
  refine Zl ?_
  refine VC.keep [0, 3, 5, 9, 64] rfl ?_
  refine VC.cond rfl (fun h64 => ?_) (fun h64 => ?_)
  ·
   replace hS := it_t h64 hS
   refine Zq (Zr ?_)
   refine Za ?_
   refine Zl ?_
   replace hS := up2 hS hK1
   cases hS
   exact Ze
  replace hS := it_b h64 hS
  refine Zk ?_
  refine Zr ?_
  refine Zm ?_
  obtain ⟨b55, hS⟩ := gd_s hS
  refine VL.q (q_add rfl rfl b55) (by decide) ?_
  refine Za ?_
  refine VL.rnd (n9_14 + 1) [0, 3, 5, 9] (fun _ _ h => h) (go2 hS hK1) rfl
 replace hS := it_f h53 hS
 replace hS := up2 hS hK1
 refine Zx ?_
 refine Zq (Zr ?_)
 refine Zm ?_
 refine VL.shut q23_6_0 5 (fun _ _ _ _ => trivial) ?_
 obtain ⟨y67_19, ey67_19, hS⟩ := bd_s hS
 refine VL.callF (index_Decode_ct q23_6_0 ey67_19) rfl (by decide) ?_
 rintro ⟨q67_19_0, q67_19_1⟩ rfl
 try dsimp only
 refine Zm ?_
 refine VL.q (q_extract rfl rfl) (by decide) ?_
 refine VL.q (q_extract rfl rfl) (by decide) ?_
 refine Za ?_
 refine Za ?_
 refine Zl ?_
 refine VC.keep [0, 3, 10, 11] rfl ?_
 refine Zq (Zr ?_)
 refine Zm ?_
 refine VL.q (q_ereq Tryz.underlying29 rfl) (by decide) ?_
 refine Zm ?_
 refine VL.split_dec 72 rfl (fun h72 => ?_) (fun h72 => ?_)
 ·
  replace hS := it_t h72 hS
  refine Zg ?_
  refine Zg ?_
  obtain ⟨y75_20, ey75_20, hS⟩ := bd_s hS
  refine VL.gy rfl rfl (q_call (rectolaw15_All_ct q67_19_0 q18_3_0 ey75_20) rfl (fun _ _ => rfl)) (by decide) ?_
  refine Zt ?_
  refine Zm ?_
  refine VL.split 77 rfl (fun h77 => ?_) (fun h77 => ?_)
  ·
   replace hS := it_t h77 hS
   refine Zg ?_
   refine VL.guard rfl rfl ?_
   obtain ⟨y79_21, ey79_21, hS⟩ := bd_s hS
   refine VL.callF (index_Conflicts_ct l_0 ey79_21) rfl (by decide) ?_
   rintro q79_21_0 rfl
   try dsimp only
   refine Zg ?_
   refine VL.guard rfl rfl ?_
   obtain ⟨y81_22, ey81_22, hS⟩ := bd_s hS
   refine VL.callO (rectoref14_Conflicts_ct q18_3_0 ey81_22) rfl (by decide) ?_
   rintro q81_22_0 rfl
   try dsimp only
   obtain ⟨y82_23, ey82_23, hS⟩ := bd_s hS
   refine VL.gy rfl rfl (q_callR (rectolaw1_Texts_ct q79_21_0 q81_22_0 ey82_23) rfl (fun _ _ => rfl)) (by decide) ?_
   refine Zt ?_
   refine Za ?_
   refine Zl ?_
   refine VC.keep [2] rfl ?_
   cases hS
   exact Ze
  replace hS := it_b h77 hS
  refine Zn ?_
  refine Zn ?_
  refine Zn ?_
  refine Zn ?_
  refine Zn ?_
  refine Zf ?_
  refine Za ?_
  refine Zl ?_
  refine VC.keep [2] rfl ?_
  cases hS
  exact Ze
 replace hS := it_f h72 hS
 refine Zn ?_
 refine Zn ?_
 refine Zn ?_
 refine Zf ?_
 refine Zm ?_
 refine Zn ?_
 refine Zn ?_
 refine Zn ?_
 refine Zn ?_
 refine Zn ?_
 refine Zf ?_
 refine Za ?_
 refine Zl ?_
 refine VC.keep [2] rfl ?_
 cases hS
 exact Ze
end Go.Proofs.YtleokmhhloamaaaGreatDoor
end

section
namespace Go.S
theorem at_get {α : Type} {l : List α} {i : Int} (h0 : 0 ≤ i) (h : i < l.length) : ∃ z, l[i.toNat]? = some z := ⟨_, List.getElem?_eq_getElem (by omega)⟩
theorem eqloop {α : Type} [DecidableEq α] (P : α → α → Prop) [∀ z w, Decidable (P z w)] (hP : ∀ z w, P z w ↔ z = w) (l r : List α) (hl : (l.length : Int) = r.length) (hb : (l.length : Int) ≤ 1000000000) (B : Int → Option (Int ⊕ Bool))
    (hB : ∀ i, B i = if i < (l.length : Int) then (at_ l i).bind (fun z => (at_ r i).bind (fun w => if P z w then gd (I64 (i + 1)) (go (i + 1)) else up (some false))) else up (some true)) : iter B 0 = some (decide (l = r)) := by
  apply Ok.eq
  refine ok_iter (I := fun i => 0 ≤ i ∧ i ≤ l.length ∧ l.take i.toNat = r.take i.toNat) (μ := fun i => (l.length - i).toNat) ?_ ⟨by omega, by omega, rfl⟩
  rintro i ⟨h0, h1, h2⟩
  rw [hB]
  simp only [ok_if, ok_up, ok_bd, ok_gd, ok_go, ok_some, ok_at]
  refine ⟨fun h => ?_, fun h => ?_⟩
  · obtain ⟨z, hz⟩ := at_get h0 h
    obtain ⟨w, hw⟩ := at_get (l := r) h0 (by omega)
    refine ⟨h0, z, hz, h0, w, hw, fun hp => ?_, fun hp => ?_⟩
    · have e := (hP z w).1 hp
      refine ⟨⟨by omega, by omega⟩, ⟨by omega, by omega, ?_⟩, by omega⟩
      rw [show (i + 1).toNat = i.toNat + 1 by omega, List.take_add_one, List.take_add_one, h2, hz, hw, e]
    · have e : z ≠ w := fun e => hp ((hP z w).2 e)
      refine (decide_eq_false fun q => e ?_).symm
      subst q
      rw [hz] at hw
      exact Option.some.inj hw
  · have e : i.toNat = l.length := by omega
    rw [e, List.take_length] at h2
    rw [show l.length = r.length by omega, List.take_length] at h2
    exact (decide_eq_true h2).symm
end Go.S
end

section
namespace Go.S
theorem get_lt {α : Type} {l : List α} {i : Nat} {x : α} (h : l[i]? = some x) : i < l.length := (List.getElem?_eq_some_iff.1 h).1
theorem at_last {α : Type} (l : List α) (z : α) : (l ++ [z])[(((l ++ [z]).length : Int) - 1).toNat]? = some z := by
  rw [show ((((l ++ [z]).length : Int) - 1).toNat) = l.length by simp]
  simp
theorem take_snoc {α : Type} {l : List α} {i : Int} {z : α} (h0 : 0 ≤ i) (h : l[i.toNat]? = some z) : l.take (i + 1).toNat = l.take i.toNat ++ [z] := by
  rw [show (i + 1).toNat = i.toNat + 1 by omega, List.take_add_one, h]; rfl
theorem ok_jnP {S R : Type} {K : S → Option R} {F : (S → Option R) → Option R} {Q : R → Prop} (P : S → Prop) (hK : ∀ s, P s → Ok (K s) Q) (hF : ∀ K' : S → Option R, (∀ s, P s → Ok (K' s) Q) → Ok (F K') Q) : Ok (jn K F) Q := hF K hK
theorem byte_eq {z : UInt8} {n : Nat} (hn : n < 256) : ((z.toNat : Int) = n) ↔ z = UInt8.ofNat n := by
  constructor
  · intro h
    apply UInt8.toNat_inj.1
    simp [Nat.mod_eq_of_lt hn]; omega
  · intro h
    subst h
    simp [Nat.mod_eq_of_lt hn]
theorem mid1 {α : Type} {s : List α} {i : Int} {z : α} (h0 : 0 ≤ i) (h : s[i.toNat]? = some z) : (s.drop i.toNat).take ((i + 1).toNat - i.toNat) = [z] := by
  obtain ⟨h1, h2⟩ := List.getElem?_eq_some_iff.1 h
  rw [show (i + 1).toNat - i.toNat = 1 by omega, List.drop_eq_getElem_cons h1, h2]
  rfl
end Go.S
end

section
namespace Go.S
open Go
def Fst {α : Type} (p : α → Bool) (l : List α) (r : Int) : Prop := (r = -1 ∧ ∀ z ∈ l, p z = false) ∨ ∃ k : Nat, r = k ∧ k < l.length ∧ (∀ z ∈ l.take k, p z = false) ∧ ∃ z, l[k]? = some z ∧ p z = true
theorem ixloop {α : Type} (p : α → Bool) (l : List α) (hb : l.length ≤ 1000000000) (F : α → Option Bool) (hF : ∀ z ∈ l, F z = some (p z)) (B : Int → Option (Int ⊕ Int))
    (hB : ∀ i, B i = if i < (l.length : Int) then (at_ l i).bind (fun z => (F z).bind (fun y => if y = true then up (some i) else gd (I64 (i + 1)) (go (i + 1)))) else up (some (-1))) : Ok (iter B 0) (Fst p l) := by
  refine ok_iter (I := fun i => 0 ≤ i ∧ i ≤ l.length ∧ ∀ z ∈ l.take i.toNat, p z = false) (μ := fun i => (l.length - i).toNat) ?_ ⟨by omega, by omega, by simp⟩
  rintro i ⟨h0, h1, h2⟩
  rw [hB]
  simp only [ok_if, ok_up, ok_bd, ok_some, ok_at]
  refine ⟨fun h => ?_, fun h => ?_⟩
  · obtain ⟨z, hz⟩ := at_get h0 h
    refine ⟨h0, z, hz, ?_⟩
    rw [hF z (List.mem_of_getElem? hz), ok_some]
    simp only [ok_if, ok_up, ok_gd, ok_go, ok_some]
    refine ⟨fun hp => .inr ⟨i.toNat, by omega, by omega, h2, z, hz, hp⟩, fun hp => ⟨⟨by omega, by omega⟩, ⟨by omega, by omega, fun y hy => ?_⟩, by omega⟩⟩
    rw [take_snoc h0 hz] at hy
    rcases List.mem_append.1 hy with q | q
    · exact h2 y q
    · rw [List.mem_singleton.1 q]; simpa using hp
  · rw [List.take_of_length_le (by omega)] at h2
    exact .inl ⟨rfl, h2⟩
theorem fst_any {α : Type} {p : α → Bool} {l : List α} {r : Int} (h : Fst p l r) : decide (0 ≤ r) = l.any p := by
  rcases h with ⟨rfl, h⟩ | ⟨k, rfl, hk, _, z, hz, hp⟩
  · have : l.any p = false := List.any_eq_false.2 fun z hz => by simp [h z hz]
    rw [this]; rfl
  · have : l.any p = true := List.any_eq_true.2 ⟨z, List.mem_of_getElem? hz, hp⟩
    rw [this]; simp
end Go.S
end
