/- Part of the proofs of: Any entries put into an index and dropped from it, one after the other: the index is what the document says, and may be; no condition. -/
import Derived.Test.YtipnlckfohhkbaaGreatDoorIC
set_option linter.unusedVariables false
set_option linter.unusedSimpArgs false
set_option linter.unusedSectionVars false
section
set_option linter.unusedVariables false
namespace Go.Proofs.YtipnlckfohhkbaaGreatDoor
open Go.RowKit Go.V
open Go.S hiding Str
set_option maxHeartbeats 4000000 in
set_option maxRecDepth 100000 in
theorem seal_Sum_ct (parts_0 : Sv (Sv UInt8)) {r : Int} (hS : Sh.seal_Sum (parts_0.l.map Sv.l) = some r) :
    Ct Tryz.prog 176 [parts_0.val] parts_0.ok (Ow.emp) (X := Unit) (fun _ => .int .u32 r) (fun _ => True) (fun _ => Mo.tt) (fun _ => Ow.emp) := by
  refine Ct.of Tryz.func176 rfl (by kernel_rfl) Tryz.ntmps176 (by simp) fun c => ?_
  unfold Sh.seal_Sum at hS
  refine VC.seq ?_
  refine VC.region ?_
  refine VL.q (q_assign rfl) (by decide) ?_
  refine VL.to (fun _ _ h => h) ?_
  refine VC.seq ?_
  refine VC.region ?_
  refine VL.q (q_assign rfl) (by decide) ?_
  refine VL.to (fun _ _ h => h) ?_
  refine VC.seq ?_
  refine VC.seq ?_
  refine VC.region ?_
  refine VL.q (q_move rfl) (by decide) ?_
  refine VL.q (q_lnm Sv.l (s := parts_0) Tryz.underlying63 rfl) (by decide) ?_
  refine VL.q (q_move rfl) (by decide) ?_
  refine VL.to (fun _ _ h => h) ?_
  refine VC.block ?_
  refine VC.iter (S := Int × Int) (fun sg => (sg.1, sg.2)) (fun sg => [(3, .int .u32 sg.1), (9, parts_0.val), (10, i64 ((parts_0.l.map Sv.l).length : Int)), (11, i64 sg.2)]) (fun sg => Mo.tt) (fun sg => Ow.emp) (4294967295, 0) [3, 9, 10, 11] hS rfl ?_
  clear hS
  rintro ⟨sum3_1, x11_2⟩ m1 y1 hS hK1
  show VC _ _ _ _ _ [(3, .int .u32 sum3_1), (9, parts_0.val), (10, i64 ((parts_0.l.map Sv.l).length : Int)), (11, i64 x11_2)] (Mo.and Mo.tt _) (Ow.emp)
  refine VC.seq ?_
  refine VC.region ?_
  refine VL.q (q_lss rfl rfl) (by decide) ?_
  refine VL.to (fun _ _ h => h) ?_
  refine VC.seq ?_
  refine VC.cond_dec rfl (fun h12 => ?_) (fun h12 => ?_)
  ·
    replace hS := it_t h12 hS
    refine VC.skip_to (fun _ _ h => h) ?_
    refine VC.seq ?_
    refine VC.block ?_
    refine VC.seq ?_
    refine VC.region ?_
    obtain ⟨z13_3, nz13_3, hz13_3, hS⟩ := atm_s hS
    refine VL.deep z13_3.ok hz13_3 (fun _ q => q) ?_
    refine VL.q (q_ixm (s := parts_0) Tryz.underlying63 gsz23 rfl rfl nz13_3 (lt_of_get nz13_3 hz13_3)) (by decide) ?_
    refine VL.q (q_el (s := parts_0) gone23 rfl hz13_3 rfl) (by decide) ?_
    refine VL.q (q_assign rfl) (by decide) ?_
    refine VL.to (fun _ _ h => h) ?_
    refine VC.seq ?_
    refine VC.region ?_
    refine VL.q (q_move rfl) (by decide) ?_
    refine VL.q (q_ln (s := z13_3) Tryz.underlying23 rfl) (by decide) ?_
    refine VL.q (q_move rfl) (by decide) ?_
    refine VL.to (fun _ _ h => h) ?_
    refine VC.block ?_
    refine VC.iter (S := Int × Int) (fun sg => (sg.1, sg.2)) (fun sg => [(3, .int .u32 sg.1), (9, parts_0.val), (10, i64 ((parts_0.l.map Sv.l).length : Int)), (11, i64 x11_2), (15, z13_3.val), (16, i64 (z13_3.l.length : Int)), (17, i64 sg.2)]) (fun sg => Mo.tt) (fun sg => Ow.emp) (sum3_1, 0) [3, 9, 10, 11, 15, 16, 17] hS rfl ?_
    clear hS
    rintro ⟨sum3_4, x17_5⟩ m2 y2 hS hK2
    show VC _ _ _ _ _ [(3, .int .u32 sum3_4), (9, parts_0.val), (10, i64 ((parts_0.l.map Sv.l).length : Int)), (11, i64 x11_2), (15, z13_3.val), (16, i64 (z13_3.l.length : Int)), (17, i64 x17_5)] (Mo.and Mo.tt _) (Ow.emp)
    refine VC.seq ?_
    refine VC.region ?_
    refine VL.q (q_lss rfl rfl) (by decide) ?_
    refine VL.to (fun _ _ h => h) ?_
    refine VC.seq ?_
    refine VC.cond_dec rfl (fun h18 => ?_) (fun h18 => ?_)
    ·
      replace hS := it_t h18 hS
      refine VC.skip_to (fun _ _ h => h) ?_
      refine VC.seq ?_
      refine VC.block ?_
      refine VC.seq ?_
      refine VC.region ?_
      obtain ⟨z19_6, nz19_6, hz19_6, hS⟩ := at_s hS
      refine VL.q (q_ixm (s := z13_3) Tryz.underlying23 gsz5 rfl rfl nz19_6 (lt_of_get nz19_6 hz19_6)) (by decide) ?_
      refine VL.q (q_el (s := z13_3) gone5 rfl hz19_6 rfl) (by decide) ?_
      refine VL.q (q_assign rfl) (by decide) ?_
      refine VL.to (fun _ _ h => h) ?_
      refine VC.seq ?_
      refine VC.region ?_
      refine VL.q (q_move rfl) (by decide) ?_
      refine VL.q (q_move rfl) (by decide) ?_
      refine VL.q (q_convW Tryz.underlying5 Tryz.underlying240 rfl) (by decide) ?_
      refine VL.q (q_xor rfl rfl) (by decide) ?_
      refine VL.q (q_assign rfl) (by decide) ?_
      refine VL.to (fun _ _ h => h) ?_
      refine VC.keep [3, 9, 10, 11, 15, 16, 17] rfl ?_
      refine VC.seq ?_
      refine VC.region ?_
      refine VL.q (q_move rfl) (by decide) ?_
      refine VL.to (fun _ _ h => h) ?_
      refine VC.block ?_
      refine VC.iter (S := Int × Int) (fun sg => (sg.1, sg.2)) (fun sg => [(3, .int .u32 sg.1), (9, parts_0.val), (10, i64 ((parts_0.l.map Sv.l).length : Int)), (11, i64 x11_2), (15, z13_3.val), (16, i64 (z13_3.l.length : Int)), (17, i64 x17_5), (25, i64 sg.2)]) (fun sg => Mo.tt) (fun sg => Ow.emp) ((bXor .u32 sum3_4 (IntKind.wrap .u32 (z19_6.toNat : Int))), 0) [3, 9, 10, 11, 15, 16, 17, 25] hS rfl ?_
      clear hS
      rintro ⟨sum3_7, x25_8⟩ m3 y3 hS hK3
      show VC _ _ _ _ _ [(3, .int .u32 sum3_7), (9, parts_0.val), (10, i64 ((parts_0.l.map Sv.l).length : Int)), (11, i64 x11_2), (15, z13_3.val), (16, i64 (z13_3.l.length : Int)), (17, i64 x17_5), (25, i64 x25_8)] (Mo.and Mo.tt _) (Ow.emp)
      refine VC.seq ?_
      refine VC.region ?_
      refine VL.q (q_lss rfl rfl) (by decide) ?_
      refine VL.to (fun _ _ h => h) ?_
      refine VC.seq ?_
      refine VC.cond_dec rfl (fun h26 => ?_) (fun h26 => ?_)
      ·
        replace hS := it_t h26 hS
        refine VC.skip_to (fun _ _ h => h) ?_
        refine VC.seq ?_
        refine VC.block ?_
        refine VC.seq ?_
        refine VC.region ?_
        refine VL.q (q_move rfl) (by decide) ?_
        refine VL.q (q_and rfl rfl) (by decide) ?_
        refine VL.q (q_assign rfl) (by decide) ?_
        refine VL.to (fun _ _ h => h) ?_
        refine VC.seq ?_
        refine VC.region ?_
        refine VL.q (q_move rfl) (by decide) ?_
        refine VL.q (q_shr rfl rfl (by decide)) (by decide) ?_
        refine VL.q (q_assign rfl) (by decide) ?_
        refine VL.to (fun _ _ h => h) ?_
        refine VC.seq ?_
        refine VC.region ?_
        refine VL.q (q_move rfl) (by decide) ?_
        refine VL.q (q_eql rfl rfl) (by decide) ?_
        refine VL.to (fun _ _ h => h) ?_
        refine VC.keep [3, 9, 10, 11, 15, 16, 17, 25, 32] rfl ?_
        refine VC.cond_dec rfl (fun h32 => ?_) (fun h32 => ?_)
        ·
          replace hS := it_t h32 hS
          refine VC.region ?_
          refine VL.q (q_move rfl) (by decide) ?_
          refine VL.q (q_xor rfl rfl) (by decide) ?_
          refine VL.q (q_assign rfl) (by decide) ?_
          refine VL.to (fun _ _ h => h) ?_
          refine VC.region ?_
          obtain ⟨b35, hS⟩ := gd_s hS
          refine VL.q (q_add rfl rfl b35) (by decide) ?_
          refine VL.q (q_move rfl) (by decide) ?_
          refine VL.rnd ((bXor .u32 (sHr .u32 sum3_7 1) 3988292384), (x25_8 + 1)) [3, 9, 10, 11, 15, 16, 17, 25] (fun _ _ h => h) (go2 hS hK3) rfl
        ·
          replace hS := it_f h32 hS
          refine VC.skip_to (fun _ _ h => h) ?_
          refine VC.region ?_
          obtain ⟨b35, hS⟩ := gd_s hS
          refine VL.q (q_add rfl rfl b35) (by decide) ?_
          refine VL.q (q_move rfl) (by decide) ?_
          refine VL.rnd ((sHr .u32 sum3_7 1), (x25_8 + 1)) [3, 9, 10, 11, 15, 16, 17, 25] (fun _ _ h => h) (go2 hS hK3) rfl
      ·
        replace hS := it_f h26 hS
        replace hS := up2 hS hK3
        refine VC.exit_to (fun _ _ h => h) ?_
        refine VC.region ?_
        obtain ⟨b36, hS⟩ := gd_s hS
        refine VL.q (q_add rfl rfl b36) (by decide) ?_
        refine VL.q (q_move rfl) (by decide) ?_
        refine VL.rnd (sum3_7, (x17_5 + 1)) [3, 9, 10, 11, 15, 16, 17] (fun _ _ h => h) (go2 hS hK2) rfl
    ·
      replace hS := it_f h18 hS
      replace hS := up2 hS hK2
      refine VC.exit_to (fun _ _ h => h) ?_
      refine VC.region ?_
      obtain ⟨b37, hS⟩ := gd_s hS
      refine VL.q (q_add rfl rfl b37) (by decide) ?_
      refine VL.q (q_move rfl) (by decide) ?_
      refine VL.rnd (sum3_4, (x11_2 + 1)) [3, 9, 10, 11] (fun _ _ h => h) (go2 hS hK1) rfl
  ·
    replace hS := it_f h12 hS
    replace hS := up2 hS hK1
    refine VC.exit_to (fun _ _ h => h) ?_
    refine VC.seq ?_
    refine VC.region ?_
    refine VL.q (q_move rfl) (by decide) ?_
    refine VL.q (q_inot rfl) (by decide) ?_
    refine VL.q (q_assign rfl) (by decide) ?_
    refine VL.to (fun _ _ h => h) ?_
    cases hS
    exact VC.ret (fin1 (.inr rfl) rfl rfl () rfl trivial (fun _ _ => trivial) (fun _ _ => trivial))

set_option maxHeartbeats 4000000 in
set_option maxRecDepth 100000 in
theorem slices_Grow_byte_byte_ct (n_1 : Int) {r : List UInt8} (hS : Sh.slices_Grow_byte_byte n_1 = some r) :
    Ct Tryz.prog 226 [.slice none 0 0, i64 n_1] Mo.tt (Ow.emp) (X := Sv UInt8) (fun x => x.val) (fun x => r = x.l) (fun x => Mo.tt) (fun x => Sv.own x 5) := by
  refine Ct.of Tryz.func226 rfl (by kernel_rfl) Tryz.ntmps226 (by simp) fun c => ?_
  unfold Sh.slices_Grow_byte_byte at hS
  refine VC.seq ?_
  refine VC.region ?_
  refine VL.q (q_assign rfl) (by decide) ?_
  refine VL.to (fun _ _ h => h) ?_
  refine VC.seq ?_
  refine VC.seq ?_
  refine VC.region ?_
  refine VL.q (q_move rfl) (by decide) ?_
  refine VL.q (q_lss rfl rfl) (by decide) ?_
  refine VL.to (fun _ _ h => h) ?_
  refine VC.cond_dec rfl (fun h6 => ?_) (fun h6 => ?_)
  ·
    replace hS := it_t h6 hS
    refine VC.region ?_
    refine VL.q (q_mkif Tryz.underlying9 (fun _ h => by cases h) rfl) (by decide) ?_
    cases hS
  ·
    replace hS := it_f h6 hS
    refine VC.skip_to (fun _ _ h => h) ?_
    refine VC.seq ?_
    refine VC.seq ?_
    refine VC.region ?_
    refine VL.q (q_move rfl) (by decide) ?_
    refine VL.q (q_move rfl) (by decide) ?_
    refine VL.q (q_cap0 Tryz.underlying23 rfl) (by decide) ?_
    refine VL.q (q_move rfl) (by decide) ?_
    refine VL.q (q_len Tryz.underlying23 rfl) (by decide) ?_
    obtain ⟨b13, hS⟩ := gd_s hS
    refine VL.q (q_sub rfl rfl b13) (by decide) ?_
    obtain ⟨b14, hS⟩ := gd_s hS
    refine VL.q (q_sub rfl rfl b14) (by decide) ?_
    refine VL.q (q_assign rfl) (by decide) ?_
    refine VL.to (fun _ _ h => h) ?_
    refine VC.keep [0, 1] rfl ?_
    refine VC.seq ?_
    refine VC.region ?_
    refine VL.q (q_move rfl) (by decide) ?_
    refine VL.q (q_gtr rfl rfl) (by decide) ?_
    refine VL.to (fun _ _ h => h) ?_
    refine VC.cond_dec rfl (fun h16 => ?_) (fun h16 => ?_)
    ·
      replace hS := it_t h16 hS
      refine VC.region ?_
      refine VL.q (q_move rfl) (by decide) ?_
      refine VL.q (q_move rfl) (by decide) ?_
      refine VL.q (q_cap0 Tryz.underlying23 rfl) (by decide) ?_
      refine VL.q (q_nil0 UInt8 Tryz.underlying23 gsz5 rfl rfl) (by decide) ?_
      refine VL.q (q_move rfl) (by decide) ?_
      obtain ⟨b22, hS⟩ := gd_s hS
      refine VL.appZ (α := UInt8) (z := (0 : UInt8)) Tryz.underlying23 Tryz.underlying3 gmk5 (by decide) rfl b22.1 b22.2 (by decide) (by decide) fun s22_1 hs22_1 => ?_
      replace hS := lt_to hs22_1 hS
      refine VL.q (q_move rfl) (by decide) ?_
      refine VL.q (q_len Tryz.underlying23 rfl) (by decide) ?_
      refine VL.own0 (s := s22_1) Tryz.underlying23 gsz5 rfl rfl Fo.out (by decide) fun s25_3 hs25_3 => ?_
      replace hS := lt_to hs25_3 hS
      refine VL.q (q_assign rfl) (by decide) ?_
      refine VL.to (fun _ _ h => h) ?_
      refine VC.keep [0] rfl ?_
      refine VC.seq ?_
      refine VC.region ?_
      refine VL.q (q_move rfl) (by decide) ?_
      refine VL.q (q_assign rfl) (by decide) ?_
      refine VL.to (fun _ _ h => h) ?_
      cases hS
      exact VC.ret (fin1 (.inr rfl) rfl rfl s25_3 rfl rfl (by (try dsimp only); exact InM.out) (by (try dsimp only); exact EntO.out))
    ·
      replace hS := it_f h16 hS
      refine VC.skip_to (fun _ _ h => h) ?_
      refine VC.seq ?_
      refine VC.region ?_
      refine VL.q (q_move rfl) (by decide) ?_
      refine VL.q (q_assign rfl) (by decide) ?_
      refine VL.to (fun _ _ h => h) ?_
      refine VC.nilO (⟨none, 0, []⟩ : Sv UInt8) 5 ⟨rfl, rfl⟩ ?_
      cases hS
      exact VC.ret (fin1 (.inr rfl) rfl rfl ⟨none, 0, []⟩ rfl rfl (by (try dsimp only); exact InM.out) (by (try dsimp only); exact EntO.out))

set_option maxHeartbeats 4000000 in
set_option maxRecDepth 100000 in
theorem slices_Concat_byte_byte_ct (slices_0 : Sv (Sv UInt8)) {r : List UInt8} (hS : Sh.slices_Concat_byte_byte (slices_0.l.map Sv.l) = some r) :
    Ct Tryz.prog 177 [slices_0.val] slices_0.ok (Ow.emp) (X := Sv UInt8) (fun x => x.val) (fun x => r = x.l) (fun x => Mo.tt) (fun x => Sv.own x 5) := by
  refine Ct.of Tryz.func177 rfl (by kernel_rfl) Tryz.ntmps177 (by simp) fun c => ?_
  unfold Sh.slices_Concat_byte_byte at hS
  refine VC.seq ?_
  refine VC.region ?_
  refine VL.q (q_assign rfl) (by decide) ?_
  refine VL.to (fun _ _ h => h) ?_
  refine VC.seq ?_
  refine VC.region ?_
  refine VL.q (q_assign rfl) (by decide) ?_
  refine VL.to (fun _ _ h => h) ?_
  refine VC.seq ?_
  refine VC.seq ?_
  refine VC.region ?_
  refine VL.q (q_move rfl) (by decide) ?_
  refine VL.q (q_lnm Sv.l (s := slices_0) Tryz.underlying63 rfl) (by decide) ?_
  refine VL.q (q_move rfl) (by decide) ?_
  refine VL.to (fun _ _ h => h) ?_
  refine VC.block ?_
  refine VC.iter (S := Int × Int) (fun sg => (sg.1, sg.2)) (fun sg => [(0, slices_0.val), (3, i64 sg.1), (9, slices_0.val), (10, i64 ((slices_0.l.map Sv.l).length : Int)), (11, i64 sg.2)]) (fun sg => Mo.tt) (fun sg => Ow.emp) (0, 0) [0, 3, 9, 10, 11] hS rfl ?_
  clear hS
  rintro ⟨size3_1, x11_2⟩ m1 y1 hS hK1
  show VC _ _ _ _ _ [(0, slices_0.val), (3, i64 size3_1), (9, slices_0.val), (10, i64 ((slices_0.l.map Sv.l).length : Int)), (11, i64 x11_2)] (Mo.and Mo.tt _) (Ow.emp)
  refine VC.seq ?_
  refine VC.region ?_
  refine VL.q (q_lss rfl rfl) (by decide) ?_
  refine VL.to (fun _ _ h => h) ?_
  refine VC.seq ?_
  refine VC.cond_dec rfl (fun h12 => ?_) (fun h12 => ?_)
  ·
    replace hS := it_t h12 hS
    refine VC.skip_to (fun _ _ h => h) ?_
    refine VC.seq ?_
    refine VC.block ?_
    refine VC.seq ?_
    refine VC.region ?_
    obtain ⟨z13_3, nz13_3, hz13_3, hS⟩ := atm_s hS
    refine VL.deep z13_3.ok hz13_3 (fun _ q => q) ?_
    refine VL.q (q_ixm (s := slices_0) Tryz.underlying63 gsz23 rfl rfl nz13_3 (lt_of_get nz13_3 hz13_3)) (by decide) ?_
    refine VL.q (q_el (s := slices_0) gone23 rfl hz13_3 rfl) (by decide) ?_
    refine VL.q (q_assign rfl) (by decide) ?_
    refine VL.to (fun _ _ h => h) ?_
    refine VC.seq ?_
    refine VC.region ?_
    refine VL.q (q_move rfl) (by decide) ?_
    refine VL.q (q_move rfl) (by decide) ?_
    refine VL.q (q_ln (s := z13_3) Tryz.underlying23 rfl) (by decide) ?_
    obtain ⟨b18, hS⟩ := gd_s hS
    refine VL.q (q_add rfl rfl b18) (by decide) ?_
    refine VL.q (q_assign rfl) (by decide) ?_
    refine VL.to (fun _ _ h => h) ?_
    refine VC.keep [0, 3, 9, 10, 11] rfl ?_
    refine VC.seq ?_
    refine VC.region ?_
    refine VL.q (q_move rfl) (by decide) ?_
    refine VL.q (q_lss rfl rfl) (by decide) ?_
    refine VL.to (fun _ _ h => h) ?_
    refine VC.cond_dec rfl (fun h20 => ?_) (fun h20 => ?_)
    ·
      replace hS := it_t h20 hS
      refine VC.region ?_
      refine VL.q (q_mkif Tryz.underlying9 (fun _ h => by cases h) rfl) (by decide) ?_
      cases hS
    ·
      replace hS := it_f h20 hS
      refine VC.skip_to (fun _ _ h => h) ?_
      refine VC.region ?_
      obtain ⟨b22, hS⟩ := gd_s hS
      refine VL.q (q_add rfl rfl b22) (by decide) ?_
      refine VL.q (q_move rfl) (by decide) ?_
      refine VL.rnd ((size3_1 + (z13_3.l.length : Int)), (x11_2 + 1)) [0, 3, 9, 10, 11] (fun _ _ h => h) (go2 hS hK1) rfl
  ·
    replace hS := it_f h12 hS
    replace hS := up2 hS hK1
    refine VC.exit_to (fun _ _ h => h) ?_
    refine VC.seq ?_
    refine VC.region ?_
    refine VL.q (q_move rfl) (by decide) ?_
    obtain ⟨y24_4, ey24_4, hS⟩ := bd_s hS
    refine VL.callO (slices_Grow_byte_byte_ct size3_1 ey24_4) rfl (by decide) ?_
    rintro q24_4_0 rfl
    try dsimp only
    refine VL.q (q_assign rfl) (by decide) ?_
    refine VL.to (fun _ _ h => h) ?_
    refine VC.seq ?_
    refine VC.seq ?_
    refine VC.region ?_
    refine VL.q (q_move rfl) (by decide) ?_
    refine VL.q (q_lnm Sv.l (s := slices_0) Tryz.underlying63 rfl) (by decide) ?_
    refine VL.q (q_move rfl) (by decide) ?_
    refine VL.to (fun _ _ h => h) ?_
    refine VC.keep [6, 25, 26, 27] rfl ?_
    refine VC.block ?_
    refine VC.iter (S := Sv UInt8 × Int) (fun sg => (sg.1.l, sg.2)) (fun sg => [(6, sg.1.val), (25, slices_0.val), (26, i64 ((slices_0.l.map Sv.l).length : Int)), (27, i64 sg.2)]) (fun sg => Mo.tt) (fun sg => Ow.star (Sv.own sg.1 5) (Ow.emp)) (q24_4_0, 0) [6, 25, 26, 27] hS rfl ?_
    clear hS
    rintro ⟨newslice6_5, x27_6⟩ m1 y1 hS hK1
    show VC _ _ _ _ _ [(6, newslice6_5.val), (25, slices_0.val), (26, i64 ((slices_0.l.map Sv.l).length : Int)), (27, i64 x27_6)] (Mo.and Mo.tt _) (Ow.star (Sv.own newslice6_5 5) (Ow.emp))
    refine VC.seq ?_
    refine VC.region ?_
    refine VL.q (q_lss rfl rfl) (by decide) ?_
    refine VL.to (fun _ _ h => h) ?_
    refine VC.seq ?_
    refine VC.cond_dec rfl (fun h28 => ?_) (fun h28 => ?_)
    ·
      replace hS := it_t h28 hS
      refine VC.skip_to (fun _ _ h => h) ?_
      refine VC.seq ?_
      refine VC.block ?_
      refine VC.seq ?_
      refine VC.region ?_
      obtain ⟨z29_7, nz29_7, hz29_7, hS⟩ := atm_s hS
      refine VL.deep z29_7.ok hz29_7 (fun _ q => q) ?_
      refine VL.q (q_ixm (s := slices_0) Tryz.underlying63 gsz23 rfl rfl nz29_7 (lt_of_get nz29_7 hz29_7)) (by decide) ?_
      refine VL.q (q_el (s := slices_0) gone23 rfl hz29_7 rfl) (by decide) ?_
      refine VL.q (q_assign rfl) (by decide) ?_
      refine VL.to (fun _ _ h => h) ?_
      refine VC.region ?_
      refine VL.q (q_move rfl) (by decide) ?_
      refine VL.q (q_move rfl) (by decide) ?_
      obtain ⟨b33, hS⟩ := gd_s hS
      refine VL.app (s := newslice6_5) (r := z29_7) Tryz.underlying23 gapp5 (by decide) rfl Fo.out (ap1 b33) (ap2 b33 (by decide)) (by decide) (fun s33_8 hs33_8 => ?_)
      replace hS := lt_to hs33_8 hS
      refine VL.q (q_assign rfl) (by decide) ?_
      refine VL.to (fun _ _ h => h) ?_
      refine VC.keep [6, 25, 26, 27] rfl ?_
      refine VC.region ?_
      obtain ⟨b34, hS⟩ := gd_s hS
      refine VL.q (q_add rfl rfl b34) (by decide) ?_
      refine VL.q (q_move rfl) (by decide) ?_
      refine VL.rnd (s33_8, (x27_6 + 1)) [6, 25, 26, 27] (fun _ _ h => h) (go2 hS hK1) rfl
    ·
      replace hS := it_f h28 hS
      replace hS := up2 hS hK1
      refine VC.exit_to (fun _ _ h => h) ?_
      refine VC.seq ?_
      refine VC.region ?_
      refine VL.q (q_move rfl) (by decide) ?_
      refine VL.q (q_assign rfl) (by decide) ?_
      refine VL.to (fun _ _ h => h) ?_
      cases hS
      exact VC.ret (fin1 (.inr rfl) rfl rfl newslice6_5 rfl rfl (by (try dsimp only); exact InM.out) (by (try dsimp only); exact EntO.out))

set_option maxHeartbeats 4000000 in
set_option maxRecDepth 100000 in
theorem seal_Put_ct (b_0 : Sv UInt8) {r : List UInt8} (hS : Sh.seal_Put b_0.l = some r) :
    Ct Tryz.prog 106 [b_0.val] b_0.ok (Ow.emp) (X := Sv UInt8) (fun x => x.val) (fun x => r = x.l) (fun x => Mo.tt) (fun x => Sv.own x 5) := by
  refine Ct.of Tryz.func106 rfl (by kernel_rfl) Tryz.ntmps106 (by simp) fun c => ?_
  unfold Sh.seal_Put at hS
  refine VC.seq ?_
  refine VC.region ?_
  refine VL.q (q_assign rfl) (by decide) ?_
  refine VL.to (fun _ _ h => h) ?_
  refine VC.seq ?_
  refine VC.region ?_
  refine VL.q (q_move rfl) (by decide) ?_
  refine VL.lit (α := Sv UInt8) (xs := [.tmp 4]) (vs := [b_0.val]) [b_0] Tryz.underlying63 glit23 (by decide) rfl rfl rfl rfl (by decide) (fun h m => List.forall_mem_cons.2 ⟨InM.out (X := b_0.ok) h m, fun _ h => by cases h⟩) (by decide) (fun s5_1 hs5_1 => ?_) (by decide)
  replace hS := lt_to (congrArg (List.map Sv.l) hs5_1) hS
  obtain ⟨y6_3, ey6_3, hS⟩ := bd_s hS
  refine VL.q (q_call (seal_Sum_ct s5_1 ey6_3) rfl (fun _ _ => rfl)) (by decide) ?_
  refine VL.q (q_assign rfl) (by decide) ?_
  refine VL.to (fun _ _ h => h) ?_
  refine VC.seq ?_
  refine VC.region ?_
  refine VL.q (q_move rfl) (by decide) ?_
  refine VL.q (q_move rfl) (by decide) ?_
  refine VL.q (q_convW Tryz.underlying240 Tryz.underlying5 rfl) (by decide) ?_
  refine VL.q (q_move rfl) (by decide) ?_
  refine VL.q (q_shr rfl rfl (by decide)) (by decide) ?_
  refine VL.q (q_convW Tryz.underlying240 Tryz.underlying5 rfl) (by decide) ?_
  refine VL.q (q_move rfl) (by decide) ?_
  refine VL.q (q_shr rfl rfl (by decide)) (by decide) ?_
  refine VL.q (q_convW Tryz.underlying240 Tryz.underlying5 rfl) (by decide) ?_
  refine VL.q (q_move rfl) (by decide) ?_
  refine VL.q (q_shr rfl rfl (by decide)) (by decide) ?_
  refine VL.q (q_convW Tryz.underlying240 Tryz.underlying5 rfl) (by decide) ?_
  obtain ⟨b19_9, hS⟩ := gd_s hS
  obtain ⟨u19_5, eu19_5, hS⟩ := lt_s hS
  refine VL.setv 9 rfl (congrArg (Value.int .u8) (u8_z b19_9 eu19_5)) ?_
  obtain ⟨b19_12, hS⟩ := gd_s hS
  obtain ⟨u19_6, eu19_6, hS⟩ := lt_s hS
  refine VL.setv 12 rfl (congrArg (Value.int .u8) (u8_z b19_12 eu19_6)) ?_
  obtain ⟨b19_15, hS⟩ := gd_s hS
  obtain ⟨u19_7, eu19_7, hS⟩ := lt_s hS
  refine VL.setv 15 rfl (congrArg (Value.int .u8) (u8_z b19_15 eu19_7)) ?_
  obtain ⟨b19_18, hS⟩ := gd_s hS
  obtain ⟨u19_8, eu19_8, hS⟩ := lt_s hS
  refine VL.setv 18 rfl (congrArg (Value.int .u8) (u8_z b19_18 eu19_8)) ?_
  refine VL.lit (α := UInt8) (xs := [.tmp 9, .tmp 12, .tmp 15, .tmp 18]) (vs := [.int .u8 (u19_5.toNat : Int), .int .u8 (u19_6.toNat : Int), .int .u8 (u19_7.toNat : Int), .int .u8 (u19_8.toNat : Int)]) [u19_5, u19_6, u19_7, u19_8] Tryz.underlying23 glit5 (by decide) rfl rfl rfl rfl (by decide) (fun _ _ _ _ => trivial) (by decide) (fun s19_4 hs19_4 => ?_) (by decide)
  replace hS := lt_to hs19_4 hS
  refine VL.lit (α := Sv UInt8) (xs := [.tmp 7, .tmp 19]) (vs := [b_0.val, s19_4.val]) [b_0, s19_4] Tryz.underlying63 glit23 (by decide) rfl rfl rfl rfl (by decide) (fun h m => List.forall_mem_cons.2 ⟨InM.out (X := b_0.ok) h m, List.forall_mem_cons.2 ⟨InM.out (X := s19_4.ok) h m, fun _ h => by cases h⟩⟩) (by decide) (fun s20_10 hs20_10 => ?_) (by decide)
  replace hS := lt_to (congrArg (List.map Sv.l) hs20_10) hS
  obtain ⟨y21_12, ey21_12, hS⟩ := bd_s hS
  refine VL.callO (slices_Concat_byte_byte_ct s20_10 ey21_12) rfl (by decide) ?_
  rintro q21_12_0 rfl
  try dsimp only
  refine VL.q (q_assign rfl) (by decide) ?_
  refine VL.to (fun _ _ h => h) ?_
  refine VC.keep [2] rfl ?_
  cases hS
  exact VC.ret (fin1 (.inr rfl) rfl rfl q21_12_0 rfl rfl (by (try dsimp only); exact InM.out) (by (try dsimp only); exact EntO.out))

set_option maxHeartbeats 4000000 in
set_option maxRecDepth 100000 in
theorem index_Encode_ct (l_0 : Sv IndexEntry) {r : List UInt8 × Err} (hS : Sh.index_Encode l_0.l = some r) :
    Ct Tryz.prog 50 [l_0.val] l_0.ok (Ow.emp) (X := Sv UInt8 × Er) (fun x => .tuple #[x.1.val, x.2.val]) (fun x => r = (x.1.l, x.2.pl)) (fun x => x.2.ok) (fun x => Sv.own x.1 5) := by
  refine Ct.of Tryz.func50 rfl (by kernel_rfl) Tryz.ntmps50 (by simp) fun c => ?_
  unfold Sh.index_Encode at hS
  refine VC.seq ?_
  refine VC.region ?_
  refine VL.q (q_assign rfl) (by decide) ?_
  refine VL.q (q_assign rfl) (by decide) ?_
  refine VL.to (fun _ _ h => h) ?_
  refine VC.seq ?_
  refine VC.seq ?_
  refine VC.region ?_
  refine VL.q (q_move rfl) (by decide) ?_
  obtain ⟨y9_1, ey9_1, hS⟩ := bd_s hS
  refine VL.callF (index_Check_ct l_0 ey9_1) rfl (by decide) ?_
  rintro q9_1_0 rfl
  try dsimp only
  refine VL.q (q_assign rfl) (by decide) ?_
  refine VL.to (fun _ _ h => h) ?_
  refine VC.seq ?_
  refine VC.region ?_
  refine VL.q (q_move rfl) (by decide) ?_
  refine VL.q (q_erne Tryz.underlying38 rfl) (by decide) ?_
  refine VL.to (fun _ _ h => h) ?_
  refine VC.cond_ndec rfl (fun h11 => ?_) (fun h11 => ?_)
  ·
    replace hS := it_f h11 hS
    refine VC.seq ?_
    refine VC.region ?_
    refine VL.q (q_move rfl) (by decide) ?_
    refine VL.q (q_assign rfl) (by decide) ?_
    refine VL.q (q_assign rfl) (by decide) ?_
    refine VL.to (fun _ _ h => h) ?_
    refine VC.nilO (⟨none, 0, []⟩ : Sv UInt8) 5 ⟨rfl, rfl⟩ ?_
    cases hS
    exact VC.ret (fin2 (.inr rfl) rfl rfl rfl (⟨none, 0, []⟩, q9_1_0) rfl rfl (by (try dsimp only); exact InM.out) (by (try dsimp only); exact EntO.out))
  ·
    replace hS := it_t h11 hS
    refine VC.skip_to (fun _ _ h => h) ?_
    refine VC.seq ?_
    refine VC.region ?_
    refine VL.alloc (cs := [.slice none 0 0]) (by kernel_rfl) (by decide) fun b5_2 => ?_
    refine VL.to (fun _ _ h => h) ?_
    refine VC.seq ?_
    refine VC.region ?_
    refine VL.q (q_move rfl) (by decide) ?_
    refine VL.q (q_ln (s := l_0) Tryz.underlying41 rfl) (by decide) ?_
    refine VL.lit (α := Int) (xs := [.tmp 14]) (vs := [i64 (l_0.l.length : Int)]) [(l_0.l.length : Int)] Tryz.underlying25 glit3 (by decide) rfl rfl rfl rfl (by decide) (fun _ _ _ _ => trivial) (by decide) (fun s15_3 hs15_3 => ?_) (by decide)
    replace hS := lt_to hs15_3 hS
    refine VL.nilO (⟨none, 0, []⟩ : Sv UInt8) 5 ⟨rfl, rfl⟩ ?_
    refine VL.reB b5_2 (cs' := [(⟨none, 0, []⟩ : Sv UInt8).val]) rfl ?_
    obtain ⟨y16_5, ey16_5, hS⟩ := bd_s hS
    refine VL.callO (codec_Enc_Int_ct b5_2 (⟨(⟨none, 0, []⟩ : Sv UInt8)⟩ : CodecEnc) s15_3 ey16_5) rfl (by decide) ?_
    rintro q16_5_0 rfl
    try dsimp only
    refine VL.to (fun _ _ h => h) ?_
    refine VC.keep [0, 5] rfl ?_
    refine VC.seq ?_
    refine VC.seq ?_
    refine VC.region ?_
    refine VL.q (q_move rfl) (by decide) ?_
    refine VL.q (q_ln (s := l_0) Tryz.underlying41 rfl) (by decide) ?_
    refine VL.q (q_move rfl) (by decide) ?_
    refine VL.to (fun _ _ h => h) ?_
    refine VC.block ?_
    refine VC.iter (S := Int × Sv UInt8) (fun sg => (sg.1, sg.2.l)) (fun sg => [(5, ptr b5_2 0), (17, l_0.val), (18, i64 (l_0.l.length : Int)), (19, i64 sg.1)]) (fun sg => Mo.tt) (fun sg => Ow.star (Blk b5_2 [sg.2.val] 169) (Ow.star (Sv.own sg.2 5) (Ow.emp))) (0, q16_5_0.b) [5, 17, 18, 19] hS rfl ?_
    clear hS
    rintro ⟨x19_6, c0_7⟩ m1 y1 hS hK1
    show VC _ _ _ _ _ [(5, ptr b5_2 0), (17, l_0.val), (18, i64 (l_0.l.length : Int)), (19, i64 x19_6)] (Mo.and Mo.tt _) (Ow.star (Blk b5_2 [c0_7.val] 169) (Ow.star (Sv.own c0_7 5) (Ow.emp)))
    refine VC.seq ?_
    refine VC.region ?_
    refine VL.q (q_lss rfl rfl) (by decide) ?_
    refine VL.to (fun _ _ h => h) ?_
    refine VC.seq ?_
    refine VC.cond_dec rfl (fun h20 => ?_) (fun h20 => ?_)
    ·
      replace hS := it_t h20 hS
      refine VC.skip_to (fun _ _ h => h) ?_
      refine VC.seq ?_
      refine VC.block ?_
      refine VC.seq ?_
      refine VC.region ?_
      obtain ⟨z21_8, nz21_8, hz21_8, hS⟩ := at_s hS
      refine VL.q (q_ixm (s := l_0) Tryz.underlying41 gsz49 rfl rfl nz21_8 (lt_of_get nz21_8 hz21_8)) (by decide) ?_
      refine VL.q (q_els (s := l_0) gagg49 rfl rfl hz21_8) (by decide) ?_
      refine VL.alloc (cs := [str [], i64 0, i64 0, str [], i64 0, i64 0]) (by kernel_rfl) (by decide) fun b7_9 => ?_
      refine VL.store (vc := [str z21_8.path, i64 z21_8.stage, i64 z21_8.mode, str z21_8.data, i64 z21_8.time, i64 z21_8.size]) (cs' := [str z21_8.path, i64 z21_8.stage, i64 z21_8.mode, str z21_8.data, i64 z21_8.time, i64 z21_8.size]) rfl rfl rfl gsz49 rfl rfl (Nat.le_of_ble_eq_true rfl) rfl ?_
      refine VL.to (fun _ _ h => h) ?_
      refine VC.seq ?_
      refine VC.region ?_
      refine VL.q (q_field gfa49_0 rfl) (by decide) ?_
      refine VL.q (q_fe gone9 rfl rfl) (by decide) ?_
      refine VL.lit (α := Str) (xs := [.tmp 24]) (vs := [str z21_8.path]) [z21_8.path] Tryz.underlying42 glit9 (by decide) rfl rfl rfl rfl (by decide) (fun _ _ _ _ => trivial) (by decide) (fun s25_10 hs25_10 => ?_) (by decide)
      replace hS := lt_to hs25_10 hS
      obtain ⟨y26_12, ey26_12, hS⟩ := bd_s hS
      refine VL.callO (codec_Enc_Text_ct b5_2 (⟨c0_7⟩ : CodecEnc) s25_10 ey26_12) rfl (by decide) ?_
      rintro q26_12_0 rfl
      try dsimp only
      refine VL.to (fun _ _ h => h) ?_
      refine VC.keep [5, 17, 18, 19, 7] rfl ?_
      refine VC.seq ?_
      refine VC.region ?_
      refine VL.q (q_field gfa49_1 rfl) (by decide) ?_
      refine VL.q (q_fe gone3 rfl rfl) (by decide) ?_
      refine VL.q (q_field gfa49_2 rfl) (by decide) ?_
      refine VL.q (q_fe gone3 rfl rfl) (by decide) ?_
      refine VL.lit (α := Int) (xs := [.tmp 28, .tmp 30]) (vs := [i64 z21_8.stage, i64 z21_8.mode]) [z21_8.stage, z21_8.mode] Tryz.underlying25 glit3 (by decide) rfl rfl rfl rfl (by decide) (fun _ _ _ _ => trivial) (by decide) (fun s31_13 hs31_13 => ?_) (by decide)
      replace hS := lt_to hs31_13 hS
      obtain ⟨y32_15, ey32_15, hS⟩ := bd_s hS
      refine VL.callO (codec_Enc_Int_ct b5_2 q26_12_0 s31_13 ey32_15) rfl (by decide) ?_
      rintro q32_15_0 rfl
      try dsimp only
      refine VL.to (fun _ _ h => h) ?_
      refine VC.seq ?_
      refine VC.region ?_
      refine VL.q (q_field gfa49_3 rfl) (by decide) ?_
      refine VL.q (q_fe gone9 rfl rfl) (by decide) ?_
      refine VL.lit (α := Str) (xs := [.tmp 34]) (vs := [str z21_8.data]) [z21_8.data] Tryz.underlying42 glit9 (by decide) rfl rfl rfl rfl (by decide) (fun _ _ _ _ => trivial) (by decide) (fun s35_16 hs35_16 => ?_) (by decide)
      replace hS := lt_to hs35_16 hS
      obtain ⟨y36_18, ey36_18, hS⟩ := bd_s hS
      refine VL.callO (codec_Enc_Text_ct b5_2 q32_15_0 s35_16 ey36_18) rfl (by decide) ?_
      rintro q36_18_0 rfl
      try dsimp only
      refine VL.to (fun _ _ h => h) ?_
      refine VC.keep [5, 17, 18, 19, 7] rfl ?_
      refine VC.region ?_
      refine VL.q (q_field gfa49_4 rfl) (by decide) ?_
      refine VL.q (q_fe gone3 rfl rfl) (by decide) ?_
      refine VL.q (q_field gfa49_5 rfl) (by decide) ?_
      refine VL.q (q_fe gone3 rfl rfl) (by decide) ?_
      refine VL.lit (α := Int) (xs := [.tmp 38, .tmp 40]) (vs := [i64 z21_8.time, i64 z21_8.size]) [z21_8.time, z21_8.size] Tryz.underlying25 glit3 (by decide) rfl rfl rfl rfl (by decide) (fun _ _ _ _ => trivial) (by decide) (fun s41_19 hs41_19 => ?_) (by decide)
      replace hS := lt_to hs41_19 hS
      obtain ⟨y42_21, ey42_21, hS⟩ := bd_s hS
      refine VL.callO (codec_Enc_Int_ct b5_2 q36_18_0 s41_19 ey42_21) rfl (by decide) ?_
      rintro q42_21_0 rfl
      try dsimp only
      refine VL.to (fun _ _ h => h) ?_
      refine VC.keep [5, 17, 18, 19] rfl ?_
      refine VC.region ?_
      obtain ⟨b43, hS⟩ := gd_s hS
      refine VL.q (q_add rfl rfl b43) (by decide) ?_
      refine VL.q (q_move rfl) (by decide) ?_
      refine VL.rnd ((x19_6 + 1), q42_21_0.b) [5, 17, 18, 19] (fun _ _ h => h) (go2 hS hK1) rfl
    ·
      replace hS := it_f h20 hS
      replace hS := up2 hS hK1
      refine VC.exit_to (fun _ _ h => h) ?_
      refine VC.seq ?_
      refine VC.region ?_
      obtain ⟨y44_22, ey44_22, hS⟩ := bd_s hS
      refine VL.callO (codec_Enc_Bytes_ct b5_2 (⟨c0_7⟩ : CodecEnc) ey44_22) rfl (by decide) ?_
      rintro q44_22_0 rfl
      try dsimp only
      obtain ⟨y45_23, ey45_23, hS⟩ := bd_s hS
      refine VL.callO (seal_Put_ct q44_22_0 ey45_23) rfl (by decide) ?_
      rintro q45_23_0 rfl
      try dsimp only
      refine VL.q (q_assign rfl) (by decide) ?_
      refine VL.q (q_assign rfl) (by decide) ?_
      refine VL.to (fun _ _ h => h) ?_
      cases hS
      exact VC.ret (fin2 (.inr rfl) rfl rfl rfl (q45_23_0, .nil) rfl rfl (by (try dsimp only); exact InM.out) (by (try dsimp only); exact EntO.out))

set_option maxHeartbeats 4000000 in
set_option maxRecDepth 100000 in
theorem bytes_Equal_ct (a_0 : Sv UInt8) (b_1 : Sv UInt8) {r : Bool} (hS : Sh.bytes_Equal a_0.l b_1.l = some r) :
    Ct Tryz.prog 113 [a_0.val, b_1.val] (a_0.ok.and b_1.ok) (Ow.emp) (X := Unit) (fun _ => .bool r) (fun _ => True) (fun _ => Mo.tt) (fun _ => Ow.emp) := by
  refine Ct.of Tryz.func113 rfl (by kernel_rfl) Tryz.ntmps113 (by simp) fun c => ?_
  unfold Sh.bytes_Equal at hS
  refine VC.seq ?_
  refine VC.region ?_
  refine VL.q (q_assign rfl) (by decide) ?_
  refine VL.to (fun _ _ h => h) ?_
  refine VC.seq ?_
  refine VC.region ?_
  refine VL.q (q_move rfl) (by decide) ?_
  refine VL.q (q_b2s (s := a_0) Tryz.underlying23 Tryz.underlying5 Tryz.underlying9 rfl) (by decide) ?_
  refine VL.q (q_move rfl) (by decide) ?_
  refine VL.q (q_b2s (s := b_1) Tryz.underlying23 Tryz.underlying5 Tryz.underlying9 rfl) (by decide) ?_
  refine VL.q (q_seq rfl rfl) (by decide) ?_
  refine VL.q (q_assign rfl) (by decide) ?_
  refine VL.to (fun _ _ h => h) ?_
  cases hS
  exact VC.ret (fin1 (.inr rfl) rfl rfl () rfl trivial (fun _ _ => trivial) (fun _ _ => trivial))

set_option maxHeartbeats 4000000 in
set_option maxRecDepth 100000 in
theorem seal_Open_ct (b_0 : Sv UInt8) {r : List UInt8 × Err} (hS : Sh.seal_Open b_0.l = some r) :
    Ct Tryz.prog 108 [b_0.val] b_0.ok (Ow.emp) (X := Sv UInt8 × Er) (fun x => .tuple #[x.1.val, x.2.val]) (fun x => r = (x.1.l, x.2.pl)) (fun x => (x.1.ok.and x.2.ok)) (fun x => Ow.emp) := by
  refine Ct.of Tryz.func108 rfl (by kernel_rfl) Tryz.ntmps108 (by simp) fun c => ?_
  unfold Sh.seal_Open at hS
  refine VC.seq ?_
  refine VC.region ?_
  refine VL.q (q_assign rfl) (by decide) ?_
  refine VL.q (q_assign rfl) (by decide) ?_
  refine VL.to (fun _ _ h => h) ?_
  refine VC.seq ?_
  refine VC.seq ?_
  refine VC.region ?_
  refine VL.q (q_move rfl) (by decide) ?_
  refine VL.q (q_ln (s := b_0) Tryz.underlying23 rfl) (by decide) ?_
  refine VL.q (q_lss rfl rfl) (by decide) ?_
  refine VL.to (fun _ _ h => h) ?_
  refine VC.cond_dec rfl (fun h7 => ?_) (fun h7 => ?_)
  ·
    replace hS := it_t h7 hS
    refine VC.seq ?_
    refine VC.region ?_
    refine VL.q (q_move rfl) (by decide) ?_
    refine VL.q (q_ln (s := b_0) Tryz.underlying23 rfl) (by decide) ?_
    refine VL.q (q_mkif Tryz.underlying99 (fun _ h => by cases h) rfl) (by decide) ?_
    refine VL.q (q_build (vs := [(0, str [115, 117, 109]), (1, i64 (b_0.l.length : Int)), (2, (Er.no 3).val)]) (cs := #[str [115, 117, 109], i64 (b_0.l.length : Int), (Er.no 3).val]) rfl (by kernel_rfl)) (by decide) ?_
    refine VL.box (cs := [str [115, 117, 109], i64 (b_0.l.length : Int), (Er.no 3).val]) rfl rfl (by decide) fun b12_1 => ?_
    refine VL.shutB b12_1 ?_
    refine VL.q (q_mkif Tryz.underlying100 (fun _ h => by cases h) rfl) (by decide) ?_
    refine VL.q (q_assign rfl) (by decide) ?_
    refine VL.q (q_assign rfl) (by decide) ?_
    refine VL.to (fun _ _ h => h) ?_
    refine VC.keep [2, 3] rfl ?_
    cases hS
    exact VC.ret (fin2 (.inr rfl) rfl rfl rfl (⟨none, 0, []⟩, (Er.fault b12_1 [115, 117, 109] (b_0.l.length : Int) (Er.no 3))) rfl rfl (by (try dsimp only); exact InM.out) (fun _ _ => trivial))
  ·
    replace hS := it_f h7 hS
    refine VC.skip_to (fun _ _ h => h) ?_
    refine VC.seq ?_
    refine VC.region ?_
    refine VL.q (q_move rfl) (by decide) ?_
    refine VL.q (q_move rfl) (by decide) ?_
    refine VL.q (q_ln (s := b_0) Tryz.underlying23 rfl) (by decide) ?_
    obtain ⟨b17, hS⟩ := gd_s hS
    refine VL.q (q_sub rfl rfl b17) (by decide) ?_
    obtain ⟨b18, hS⟩ := gd_s hS
    refine VL.sto Tryz.underlying23 gsz5 rfl rfl b18.1 (b18.2) (by decide) fun s18_2 hs18_2 => ?_
    replace hS := lt_to hs18_2 hS
    refine VL.q (q_assign rfl) (by decide) ?_
    refine VL.to (fun _ _ h => h) ?_
    refine VC.keep [0, 4] rfl ?_
    refine VC.seq ?_
    refine VC.seq ?_
    refine VC.region ?_
    refine VL.q (q_move rfl) (by decide) ?_
    obtain ⟨y20_4, ey20_4, hS⟩ := bd_s hS
    refine VL.callO (seal_Put_ct s18_2 ey20_4) rfl (by decide) ?_
    rintro q20_4_0 rfl
    try dsimp only
    refine VL.q (q_move rfl) (by decide) ?_
    obtain ⟨y22_5, ey22_5, hS⟩ := bd_s hS
    refine VL.q (q_callR (bytes_Equal_ct q20_4_0 b_0 ey22_5) rfl (fun _ _ => rfl)) (by decide) ?_
    refine VL.q (q_not rfl) (by decide) ?_
    refine VL.to (fun _ _ h => h) ?_
    refine VC.cond rfl (fun h23 => ?_) (fun h23 => ?_)
    ·
      replace hS := it_t h23 hS
      refine VC.seq ?_
      refine VC.region ?_
      refine VL.q (q_move rfl) (by decide) ?_
      refine VL.q (q_ln (s := b_0) Tryz.underlying23 rfl) (by decide) ?_
      refine VL.q (q_mkif Tryz.underlying99 (fun _ h => by cases h) rfl) (by decide) ?_
      refine VL.q (q_build (vs := [(0, str [115, 117, 109]), (1, i64 (b_0.l.length : Int)), (2, (Er.no 12).val)]) (cs := #[str [115, 117, 109], i64 (b_0.l.length : Int), (Er.no 12).val]) rfl (by kernel_rfl)) (by decide) ?_
      refine VL.box (cs := [str [115, 117, 109], i64 (b_0.l.length : Int), (Er.no 12).val]) rfl rfl (by decide) fun b28_6 => ?_
      refine VL.shutB b28_6 ?_
      refine VL.q (q_mkif Tryz.underlying100 (fun _ h => by cases h) rfl) (by decide) ?_
      refine VL.q (q_assign rfl) (by decide) ?_
      refine VL.q (q_assign rfl) (by decide) ?_
      refine VL.to (fun _ _ h => h) ?_
      refine VC.keep [2, 3] rfl ?_
      cases hS
      exact VC.ret (fin2 (.inr rfl) rfl rfl rfl (⟨none, 0, []⟩, (Er.fault b28_6 [115, 117, 109] (b_0.l.length : Int) (Er.no 12))) rfl rfl (by (try dsimp only); exact InM.out) (fun _ _ => trivial))
    ·
      replace hS := it_b h23 hS
      refine VC.skip_to (fun _ _ h => h) ?_
      refine VC.seq ?_
      refine VC.region ?_
      refine VL.q (q_move rfl) (by decide) ?_
      obtain ⟨y31_7, ey31_7, hS⟩ := bd_s hS
      refine VL.callO (slices_Clone_byte_byte_ct s18_2 ey31_7) rfl (by decide) ?_
      rintro q31_7_0 rfl
      try dsimp only
      refine VL.shut q31_7_0 5 (fun _ _ _ _ => trivial) ?_
      obtain ⟨y32_8, ey32_8, hS⟩ := bd_s hS
      refine VL.callF (slices_Clip_byte_byte_ct q31_7_0 ey32_8) rfl (by decide) ?_
      rintro q32_8_0 rfl
      try dsimp only
      refine VL.q (q_assign rfl) (by decide) ?_
      refine VL.q (q_assign rfl) (by decide) ?_
      refine VL.to (fun _ _ h => h) ?_
      refine VC.keep [2, 3] rfl ?_
      cases hS
      exact VC.ret (fin2 (.inr rfl) rfl rfl rfl (q32_8_0, .nil) rfl rfl (by (try dsimp only); exact InM.out) (fun _ _ => trivial))

set_option maxHeartbeats 4000000 in
set_option maxRecDepth 100000 in
theorem codec_Of_ct (b_0 : Sv UInt8) {r : CodecDecP} (hS : Sh.codec_Of b_0.l = some r) :
    Ct Tryz.prog 109 [b_0.val] b_0.ok (Ow.emp) (X := Nat × CodecDec) (fun x => ptr x.1 0) (fun x => r = x.2.pl) (fun x => (x.2.b.ok.and x.2.err.ok)) (fun x => Blk x.1 [x.2.b.val, i64 x.2.at_, x.2.err.val] 244) := by
  refine Ct.of Tryz.func109 rfl (by kernel_rfl) Tryz.ntmps109 (by simp) fun c => ?_
  unfold Sh.codec_Of at hS
  refine VC.seq ?_
  refine VC.region ?_
  refine VL.q (q_assign rfl) (by decide) ?_
  refine VL.to (fun _ _ h => h) ?_
  refine VC.seq ?_
  refine VC.region ?_
  refine VL.q (q_move rfl) (by decide) ?_
  obtain ⟨y4_1, ey4_1, hS⟩ := bd_s hS
  refine VL.callO (slices_Clone_byte_byte_ct b_0 ey4_1) rfl (by decide) ?_
  rintro q4_1_0 rfl
  try dsimp only
  refine VL.q (q_build (vs := [(0, q4_1_0.val)]) (cs := #[q4_1_0.val, i64 0, .nilIface]) rfl (by kernel_rfl)) (by decide) ?_
  refine VL.box (cs := [q4_1_0.val, i64 0, .nilIface]) rfl rfl (by decide) fun b6_2 => ?_
  refine VL.q (q_assign rfl) (by decide) ?_
  refine VL.to (fun _ _ h => h) ?_
  refine VC.shut q4_1_0 5 (fun _ _ _ _ => trivial) ?_
  refine VC.reB b6_2 (cs' := [q4_1_0.val, i64 0, (Er.nil).val]) rfl ?_
  cases hS
  exact VC.ret (fin1 (.inr rfl) rfl rfl (b6_2, ⟨q4_1_0, 0, (Er.nil)⟩) rfl rfl (by (try dsimp only); exact InM.out) (by (try dsimp only); exact EntO.out))

set_option maxHeartbeats 4000000 in
set_option maxRecDepth 100000 in
theorem codec_Dec_uint_ct (d_0_b : Nat) (d_0 : CodecDec) {r : Int × Int × CodecDecP} (hS : Sh.codec_Dec_uint d_0.pl = some r) :
    Ct Tryz.prog 185 [ptr d_0_b 0] (d_0.b.ok.and d_0.err.ok) (Blk d_0_b [d_0.b.val, i64 d_0.at_, d_0.err.val] 244) (X := Int × Int × CodecDec) (fun x => .tuple #[.int .u64 x.1, i64 x.2.1]) (fun x => r = (x.1, x.2.1, x.2.2.pl)) (fun x => (x.2.2.b.ok.and x.2.2.err.ok)) (fun x => Blk d_0_b [x.2.2.b.val, i64 x.2.2.at_, x.2.2.err.val] 244) := by
  refine Ct.of Tryz.func185 rfl (by kernel_rfl) Tryz.ntmps185 (by simp) fun c => ?_
  unfold Sh.codec_Dec_uint at hS
  refine VC.seq ?_
  refine VC.region ?_
  refine VL.q (q_assign rfl) (by decide) ?_
  refine VL.q (q_assign rfl) (by decide) ?_
  refine VL.to (fun _ _ h => h) ?_
  refine VC.seq ?_
  refine VC.region ?_
  refine VL.q (q_assign rfl) (by decide) ?_
  refine VL.to (fun _ _ h => h) ?_
  refine VC.seq ?_
  refine VC.seq ?_
  refine VC.region ?_
  refine VL.q (q_move rfl) (by decide) ?_
  refine VL.to (fun _ _ h => h) ?_
  refine VC.block ?_
  refine VC.iter (S := Int × Int) (fun sg => (sg.1, sg.2)) (fun sg => [(0, ptr d_0_b 0), (4, .int .u64 sg.1), (7, i64 sg.2)]) (fun sg => Mo.tt) (fun sg => Ow.star (Blk d_0_b [d_0.b.val, i64 d_0.at_, d_0.err.val] 244) (Ow.emp)) (0, 0) [0, 4, 7] hS rfl ?_
  clear hS
  rintro ⟨v4_1, x7_2⟩ m1 y1 hS hK1
  show VC _ _ _ _ _ [(0, ptr d_0_b 0), (4, .int .u64 v4_1), (7, i64 x7_2)] (Mo.and Mo.tt _) (Ow.star (Blk d_0_b [d_0.b.val, i64 d_0.at_, d_0.err.val] 244) (Ow.emp))
  refine VC.seq ?_
  refine VC.region ?_
  refine VL.q (q_lss rfl rfl) (by decide) ?_
  refine VL.to (fun _ _ h => h) ?_
  refine VC.seq ?_
  refine VC.cond_dec rfl (fun h8 => ?_) (fun h8 => ?_)
  ·
    replace hS := it_t h8 hS
    refine VC.skip_to (fun _ _ h => h) ?_
    refine VC.seq ?_
    refine VC.block ?_
    refine VC.seq ?_
    refine VC.region ?_
    refine VL.q (q_move rfl) (by decide) ?_
    refine VL.q (q_assign rfl) (by decide) ?_
    refine VL.to (fun _ _ h => h) ?_
    refine VC.seq ?_
    refine VC.seq ?_
    refine VC.draw ((List.range 12).map fun k => (k, true)) mixed (by kernel_rfl) (by kernel_rfl) (by kernel_rfl) ?_
    refine VD.q rfl (q_move rfl) (by decide) ?_
    refine VD.q rfl (q_nilCheck rfl) (by decide) ?_
    refine VD.q rfl (q_field gfa244_1 rfl) (by decide) ?_
    refine VD.q rfl (q_fe gone3 rfl rfl) (by decide) ?_
    refine VD.q rfl (q_move rfl) (by decide) ?_
    obtain ⟨b15, hS⟩ := gd_s hS
    refine VD.q rfl (q_add rfl rfl b15) (by decide) ?_
    refine VD.q rfl (q_move rfl) (by decide) ?_
    refine VD.q rfl (q_nilCheck rfl) (by decide) ?_
    refine VD.q rfl (q_field gfa244_0 rfl) (by decide) ?_
    refine VD.q rfl (q_fe gone23 rfl rfl) (by decide) ?_
    refine VD.q rfl (q_ln (s := d_0.b) Tryz.underlying23 rfl) (by decide) ?_
    refine VD.q rfl (q_geq rfl rfl) (by decide) ?_
    refine VD.to (fun _ _ h => h) ?_
    refine VC.keep [0, 4, 7, 5, 21] rfl ?_
    refine VC.cond_dec rfl (fun h21 => ?_) (fun h21 => ?_)
    ·
      replace hS := it_t h21 hS
      refine VC.seq ?_
      refine VC.region ?_
      refine VL.q (q_assign rfl) (by decide) ?_
      refine VL.q (q_assign rfl) (by decide) ?_
      refine VL.to (fun _ _ h => h) ?_
      replace hS := up2 hS hK1
      cases hS
      exact VC.ret (fin2 (.inr rfl) rfl rfl rfl (0, 3, ⟨d_0.b, d_0.at_, d_0.err⟩) rfl rfl (by (try dsimp only); exact InM.out) (by (try dsimp only); exact EntO.out))
    ·
      replace hS := it_f h21 hS
      refine VC.skip_to (fun _ _ h => h) ?_
      refine VC.seq ?_
      refine VC.draw ((List.range 13).map fun k => (k, true)) mixed (by kernel_rfl) (by kernel_rfl) (by kernel_rfl) ?_
      refine VD.q rfl (q_move rfl) (by decide) ?_
      refine VD.q rfl (q_nilCheck rfl) (by decide) ?_
      refine VD.q rfl (q_field gfa244_0 rfl) (by decide) ?_
      refine VD.q rfl (q_fe gone23 rfl rfl) (by decide) ?_
      refine VD.q rfl (q_move rfl) (by decide) ?_
      refine VD.q rfl (q_nilCheck rfl) (by decide) ?_
      refine VD.q rfl (q_field gfa244_1 rfl) (by decide) ?_
      refine VD.q rfl (q_fe gone3 rfl rfl) (by decide) ?_
      refine VD.q rfl (q_move rfl) (by decide) ?_
      obtain ⟨b31, hS⟩ := gd_s hS
      refine VD.q rfl (q_add rfl rfl b31) (by decide) ?_
      obtain ⟨z32_3, nz32_3, hz32_3, hS⟩ := at_s hS
      refine VD.q rfl (q_ixm (s := d_0.b) Tryz.underlying23 gsz5 rfl rfl nz32_3 (lt_of_get nz32_3 hz32_3)) (by decide) ?_
      refine VD.q rfl (q_el (s := d_0.b) gone5 rfl hz32_3 rfl) (by decide) ?_
      refine VD.q rfl (q_assign rfl) (by decide) ?_
      refine VD.to (fun _ _ h => h) ?_
      refine VC.keep [0, 4, 7, 5, 6] rfl ?_
      refine VC.cutJ (S := Unit) (fun (_ : Unit) => ()) (fun (_ : Unit) => [(0, ptr d_0_b 0), (4, .int .u64 v4_1), (5, i64 x7_2), (6, .int .u8 (z32_3.toNat : Int)), (7, i64 x7_2)]) (fun (_ : Unit) => Mo.tt) (fun (_ : Unit) => Ow.star (Blk d_0_b [d_0.b.val, i64 d_0.at_, d_0.err.val] 244) (Ow.emp)) hS ?_ ?_
      · -- up to where ways meet
        clear hS
        intro k4 hS
        refine VC.seq ?_
        refine VC.region ?_
        refine VL.q (q_move rfl) (by decide) ?_
        refine VL.q (q_eql rfl rfl) (by decide) ?_
        refine VL.q (q_move rfl) (by decide) ?_
        refine VL.split_dec 36 rfl (fun h36 => ?_) (fun h36 => ?_)
        ·
          replace hS := it_t h36 hS
          refine VL.gy rfl rfl (q_move rfl) (by decide) ?_
          refine VL.gy rfl rfl (q_gtr rfl rfl) (by decide) ?_
          refine VL.q (q_pick_t rfl rfl) (by decide) ?_
          refine VL.q (q_move rfl) (by decide) ?_
          refine VL.split_dec 40 rfl (fun h40 => ?_) (fun h40 => ?_)
          ·
            replace hS := it_t h40 hS
            refine VL.gn rfl rfl rfl (by decide) ?_
            refine VL.gn rfl rfl rfl (by decide) ?_
            refine VL.gn rfl rfl rfl (by decide) ?_
            refine VL.gu rfl rfl (by decide) ?_
            refine VL.gu rfl rfl (by decide) ?_
            refine VL.gn rfl rfl rfl (by decide) ?_
            refine VL.q (q_pick_t rfl rfl) (by decide) ?_
            refine VL.to (fun _ _ h => h) ?_
            refine VC.keep [0, 4, 7, 5, 6, 47] rfl ?_
            refine VC.cond_t rfl ?_
            replace hS := up2 hS hK1
            refine VC.exit_to (fun _ _ h => h) ?_
            refine VC.seq ?_
            refine VC.region ?_
            refine VL.q (q_assign rfl) (by decide) ?_
            refine VL.q (q_assign rfl) (by decide) ?_
            refine VL.to (fun _ _ h => h) ?_
            cases hS
            exact VC.ret (fin2 (.inr rfl) rfl rfl rfl (0, 2, ⟨d_0.b, d_0.at_, d_0.err⟩) rfl rfl (by (try dsimp only); exact InM.out) (by (try dsimp only); exact EntO.out))
          ·
            replace hS := it_f h40 hS
            refine VL.gy rfl rfl (q_move rfl) (by decide) ?_
            refine VL.gy rfl rfl (q_gtr rfl rfl) (by decide) ?_
            refine VL.gy rfl rfl (q_move rfl) (by decide) ?_
            refine VL.split_dec 43 rfl (fun h43 => ?_) (fun h43 => ?_)
            ·
              replace hS := it_t h43 hS
              refine VL.gy rfl rfl (q_move rfl) (by decide) ?_
              refine VL.gy rfl rfl (q_eql rfl rfl) (by decide) ?_
              refine VL.gy rfl rfl (q_pick_t rfl rfl) (by decide) ?_
              refine VL.q (q_pick_f rfl rfl) (by decide) ?_
              refine VL.to (fun _ _ h => h) ?_
              refine VC.keep [0, 4, 7, 5, 6, 47] rfl ?_
              refine VC.cond_dec rfl (fun h47 => ?_) (fun h47 => ?_)
              ·
                replace hS := it_t h47 hS
                replace hS := up2 hS hK1
                refine VC.exit_to (fun _ _ h => h) ?_
                refine VC.seq ?_
                refine VC.region ?_
                refine VL.q (q_assign rfl) (by decide) ?_
                refine VL.q (q_assign rfl) (by decide) ?_
                refine VL.to (fun _ _ h => h) ?_
                cases hS
                exact VC.ret (fin2 (.inr rfl) rfl rfl rfl (0, 2, ⟨d_0.b, d_0.at_, d_0.err⟩) rfl rfl (by (try dsimp only); exact InM.out) (by (try dsimp only); exact EntO.out))
              ·
                replace hS := it_f h47 hS
                refine VC.skip_mt () [0, 4, 5, 6, 7] (fun _ _ h => h) hS rfl
            ·
              replace hS := it_f h43 hS
              refine VL.gn rfl rfl rfl (by decide) ?_
              refine VL.gn rfl rfl rfl (by decide) ?_
              refine VL.gy rfl rfl (q_pick_f rfl rfl) (by decide) ?_
              refine VL.q (q_pick_f rfl rfl) (by decide) ?_
              refine VL.to (fun _ _ h => h) ?_
              refine VC.keep [0, 4, 7, 5, 6, 47] rfl ?_
              refine VC.cond_f rfl ?_
              refine VC.skip_mt () [0, 4, 5, 6, 7] (fun _ _ h => h) hS rfl
        ·
          replace hS := it_f h36 hS
          refine VL.gn rfl rfl rfl (by decide) ?_
          refine VL.gn rfl rfl rfl (by decide) ?_
          refine VL.q (q_pick_f rfl rfl) (by decide) ?_
          refine VL.q (q_move rfl) (by decide) ?_
          refine VL.gy rfl rfl (q_move rfl) (by decide) ?_
          refine VL.gy rfl rfl (q_gtr rfl rfl) (by decide) ?_
          refine VL.gy rfl rfl (q_move rfl) (by decide) ?_
          refine VL.split_dec 43 rfl (fun h43 => ?_) (fun h43 => ?_)
          ·
            replace hS := it_t h43 hS
            refine VL.gy rfl rfl (q_move rfl) (by decide) ?_
            refine VL.gy rfl rfl (q_eql rfl rfl) (by decide) ?_
            refine VL.gy rfl rfl (q_pick_t rfl rfl) (by decide) ?_
            refine VL.q (q_pick_f rfl rfl) (by decide) ?_
            refine VL.to (fun _ _ h => h) ?_
            refine VC.keep [0, 4, 7, 5, 6, 47] rfl ?_
            refine VC.cond_dec rfl (fun h47 => ?_) (fun h47 => ?_)
            ·
              replace hS := it_t h47 hS
              replace hS := up2 hS hK1
              refine VC.exit_to (fun _ _ h => h) ?_
              refine VC.seq ?_
              refine VC.region ?_
              refine VL.q (q_assign rfl) (by decide) ?_
              refine VL.q (q_assign rfl) (by decide) ?_
              refine VL.to (fun _ _ h => h) ?_
              cases hS
              exact VC.ret (fin2 (.inr rfl) rfl rfl rfl (0, 2, ⟨d_0.b, d_0.at_, d_0.err⟩) rfl rfl (by (try dsimp only); exact InM.out) (by (try dsimp only); exact EntO.out))
            ·
              replace hS := it_f h47 hS
              refine VC.skip_mt () [0, 4, 5, 6, 7] (fun _ _ h => h) hS rfl
          ·
            replace hS := it_f h43 hS
            refine VL.gn rfl rfl rfl (by decide) ?_
            refine VL.gn rfl rfl rfl (by decide) ?_
            refine VL.gy rfl rfl (q_pick_f rfl rfl) (by decide) ?_
            refine VL.q (q_pick_f rfl rfl) (by decide) ?_
            refine VL.to (fun _ _ h => h) ?_
            refine VC.keep [0, 4, 7, 5, 6, 47] rfl ?_
            refine VC.cond_f rfl ?_
            refine VC.skip_mt () [0, 4, 5, 6, 7] (fun _ _ h => h) hS rfl
      · -- from there
        clear hS
        rintro _ hS
        show VC _ _ _ _ _ [(0, ptr d_0_b 0), (4, .int .u64 v4_1), (5, i64 x7_2), (6, .int .u8 (z32_3.toNat : Int)), (7, i64 x7_2)] (Mo.and Mo.tt _) (Ow.star (Blk d_0_b [d_0.b.val, i64 d_0.at_, d_0.err.val] 244) (Ow.emp))
        refine VC.seq ?_
        refine VC.region ?_
        refine VL.q (q_move rfl) (by decide) ?_
        refine VL.q (q_move rfl) (by decide) ?_
        refine VL.q (q_and rfl rfl) (by decide) ?_
        refine VL.q (q_convW Tryz.underlying5 Tryz.underlying239 rfl) (by decide) ?_
        refine VL.q (q_move rfl) (by decide) ?_
        obtain ⟨b53, hS⟩ := gd_s hS
        refine VL.q (q_mul rfl rfl b53) (by decide) ?_
        obtain ⟨b54, hS⟩ := gd_s hS
        refine VL.q (q_shl rfl rfl b54) (by decide) ?_
        refine VL.q (q_or rfl rfl) (by decide) ?_
        refine VL.q (q_assign rfl) (by decide) ?_
        refine VL.to (fun _ _ h => h) ?_
        refine VC.keep [0, 4, 5, 6, 7] rfl ?_
        refine VC.seq ?_
        refine VC.region ?_
        refine VL.q (q_move rfl) (by decide) ?_
        refine VL.q (q_lss rfl rfl) (by decide) ?_
        refine VL.to (fun _ _ h => h) ?_
        refine VC.cond_dec rfl (fun h57 => ?_) (fun h57 => ?_)
        ·
          replace hS := it_t h57 hS
          refine VC.seq ?_
          refine VC.region ?_
          refine VL.q (q_move rfl) (by decide) ?_
          refine VL.q (q_nilCheck rfl) (by decide) ?_
          refine VL.q (q_field gfa244_1 rfl) (by decide) ?_
          refine VL.q (q_fe gone3 rfl rfl) (by decide) ?_
          refine VL.q (q_move rfl) (by decide) ?_
          obtain ⟨b63, hS⟩ := gd_s hS
          refine VL.q (q_add rfl rfl b63) (by decide) ?_
          obtain ⟨b64, hS⟩ := gd_s hS
          refine VL.q (q_add rfl rfl b64) (by decide) ?_
          refine VL.q (q_nilCheck rfl) (by decide) ?_
          refine VL.q (q_field gfa244_1 rfl) (by decide) ?_
          refine VL.store (vc := [i64 (d_0.at_ + (x7_2 + 1))]) (cs' := [d_0.b.val, i64 (d_0.at_ + (x7_2 + 1)), d_0.err.val]) rfl rfl rfl gsz3 rfl rfl (Nat.le_of_ble_eq_true rfl) rfl ?_
          refine VL.to (fun _ _ h => h) ?_
          refine VC.keep [4] rfl ?_
          refine VC.seq ?_
          refine VC.region ?_
          refine VL.q (q_move rfl) (by decide) ?_
          refine VL.q (q_assign rfl) (by decide) ?_
          refine VL.q (q_assign rfl) (by decide) ?_
          refine VL.to (fun _ _ h => h) ?_
          replace hS := up2 hS hK1
          cases hS
          exact VC.ret (fin2 (.inr rfl) rfl rfl rfl ((bOr .u64 v4_1 (sHl .u64 (IntKind.wrap .u64 (bAnd .u8 (z32_3.toNat : Int) 127)) (7 * x7_2))), 0, ⟨d_0.b, (d_0.at_ + (x7_2 + 1)), d_0.err⟩) rfl rfl (by (try dsimp only); exact InM.out) (by (try dsimp only); exact EntO.out))
        ·
          replace hS := it_f h57 hS
          refine VC.skip_to (fun _ _ h => h) ?_
          refine VC.region ?_
          obtain ⟨b68, hS⟩ := gd_s hS
          refine VL.q (q_add rfl rfl b68) (by decide) ?_
          refine VL.q (q_move rfl) (by decide) ?_
          refine VL.rnd ((bOr .u64 v4_1 (sHl .u64 (IntKind.wrap .u64 (bAnd .u8 (z32_3.toNat : Int) 127)) (7 * x7_2))), (x7_2 + 1)) [0, 4, 7] (fun _ _ h => h) (go2 hS hK1) rfl
  ·
    replace hS := it_f h8 hS
    replace hS := up2 hS hK1
    refine VC.exit_to (fun _ _ h => h) ?_
    refine VC.seq ?_
    refine VC.region ?_
    refine VL.q (q_assign rfl) (by decide) ?_
    refine VL.q (q_assign rfl) (by decide) ?_
    refine VL.to (fun _ _ h => h) ?_
    cases hS
    exact VC.ret (fin2 (.inr rfl) rfl rfl rfl (0, 2, ⟨d_0.b, d_0.at_, d_0.err⟩) rfl rfl (by (try dsimp only); exact InM.out) (by (try dsimp only); exact EntO.out))

set_option maxHeartbeats 4000000 in
set_option maxRecDepth 100000 in
theorem codec_Dec_fail_ct (d_0_b : Nat) (d_0 : CodecDec) (at_1 : Int) (e_2 : Int) {r : CodecDecP} (hS : Sh.codec_Dec_fail d_0.pl at_1 e_2 = some r) :
    Ct Tryz.prog 186 [ptr d_0_b 0, i64 at_1, i64 e_2] (d_0.b.ok.and d_0.err.ok) (Blk d_0_b [d_0.b.val, i64 d_0.at_, d_0.err.val] 244) (X := CodecDec) (fun x => .tuple #[]) (fun x => r = x.pl) (fun x => (x.b.ok.and x.err.ok)) (fun x => Blk d_0_b [x.b.val, i64 x.at_, x.err.val] 244) := by
  refine Ct.of Tryz.func186 rfl (by kernel_rfl) Tryz.ntmps186 (by simp) fun c => ?_
  unfold Sh.codec_Dec_fail at hS
  refine VC.region ?_
  refine VL.q (q_move rfl) (by decide) ?_
  refine VL.q (q_move rfl) (by decide) ?_
  refine VL.q (q_move rfl) (by decide) ?_
  refine VL.q (q_mkif Tryz.underlying99 (fun _ h => by cases h) rfl) (by decide) ?_
  refine VL.q (q_build (vs := [(0, str [98, 121, 116, 101]), (1, i64 at_1), (2, (Er.no e_2).val)]) (cs := #[str [98, 121, 116, 101], i64 at_1, (Er.no e_2).val]) rfl (by kernel_rfl)) (by decide) ?_
  refine VL.box (cs := [str [98, 121, 116, 101], i64 at_1, (Er.no e_2).val]) rfl rfl (by decide) fun b11_1 => ?_
  refine VL.shutB b11_1 ?_
  refine VL.q (q_mkif Tryz.underlying100 (fun _ h => by cases h) rfl) (by decide) ?_
  refine VL.q (q_nilCheck rfl) (by decide) ?_
  refine VL.q (q_field gfa244_2 rfl) (by decide) ?_
  refine VL.store (vc := [(Er.fault b11_1 [98, 121, 116, 101] at_1 (Er.no e_2)).val]) (cs' := [d_0.b.val, i64 d_0.at_, (Er.fault b11_1 [98, 121, 116, 101] at_1 (Er.no e_2)).val]) rfl rfl rfl gsz38 rfl rfl (Nat.le_of_ble_eq_true rfl) rfl ?_
  cases hS
  exact VL.nil (fin0 (.inl rfl) rfl ⟨d_0.b, d_0.at_, (Er.fault b11_1 [98, 121, 116, 101] at_1 (Er.no e_2))⟩ rfl rfl (by (try dsimp only); exact InM.out) (by (try dsimp only); exact EntO.out))

set_option maxHeartbeats 4000000 in
set_option maxRecDepth 100000 in
theorem codec_Dec_Int_ct (d_0_b : Nat) (d_0 : CodecDec) {r : Int × CodecDecP} (hS : Sh.codec_Dec_Int d_0.pl = some r) :
    Ct Tryz.prog 125 [ptr d_0_b 0] (d_0.b.ok.and d_0.err.ok) (Blk d_0_b [d_0.b.val, i64 d_0.at_, d_0.err.val] 244) (X := Int × CodecDec) (fun x => i64 x.1) (fun x => r = (x.1, x.2.pl)) (fun x => (x.2.b.ok.and x.2.err.ok)) (fun x => Blk d_0_b [x.2.b.val, i64 x.2.at_, x.2.err.val] 244) := by
  refine Ct.of Tryz.func125 rfl (by kernel_rfl) Tryz.ntmps125 (by simp) fun c => ?_
  unfold Sh.codec_Dec_Int at hS
  refine VC.seq ?_
  refine VC.region ?_
  refine VL.q (q_assign rfl) (by decide) ?_
  refine VL.to (fun _ _ h => h) ?_
  refine VC.seq ?_
  refine VC.seq ?_
  refine VC.region ?_
  refine VL.q (q_move rfl) (by decide) ?_
  refine VL.q (q_nilCheck rfl) (by decide) ?_
  refine VL.q (q_field gfa244_2 rfl) (by decide) ?_
  refine VL.q (q_fe gone38 rfl rfl) (by decide) ?_
  refine VL.q (q_erne Tryz.underlying38 rfl) (by decide) ?_
  refine VL.to (fun _ _ h => h) ?_
  refine VC.cond_ndec rfl (fun h10 => ?_) (fun h10 => ?_)
  ·
    replace hS := it_f h10 hS
    refine VC.seq ?_
    refine VC.region ?_
    refine VL.q (q_assign rfl) (by decide) ?_
    refine VL.to (fun _ _ h => h) ?_
    cases hS
    exact VC.ret (fin1 (.inr rfl) rfl rfl (0, ⟨d_0.b, d_0.at_, d_0.err⟩) rfl rfl (by (try dsimp only); exact InM.out) (by (try dsimp only); exact EntO.out))
  ·
    replace hS := it_t h10 hS
    refine VC.skip_to (fun _ _ h => h) ?_
    refine VC.seq ?_
    refine VC.region ?_
    refine VL.q (q_move rfl) (by decide) ?_
    refine VL.q (q_nilCheck rfl) (by decide) ?_
    refine VL.q (q_field gfa244_1 rfl) (by decide) ?_
    refine VL.q (q_fe gone3 rfl rfl) (by decide) ?_
    refine VL.q (q_assign rfl) (by decide) ?_
    refine VL.to (fun _ _ h => h) ?_
    refine VC.keep [0, 3] rfl ?_
    refine VC.seq ?_
    refine VC.region ?_
    refine VL.q (q_move rfl) (by decide) ?_
    obtain ⟨y17_1, ey17_1, hS⟩ := bd_s hS
    refine VL.callO (codec_Dec_uint_ct d_0_b d_0 ey17_1) rfl (by decide) ?_
    rintro ⟨q17_1_0, q17_1_1, q17_1_2⟩ rfl
    try dsimp only
    refine VL.q (q_move rfl) (by decide) ?_
    refine VL.q (q_extract rfl rfl) (by decide) ?_
    refine VL.q (q_extract rfl rfl) (by decide) ?_
    refine VL.q (q_assign rfl) (by decide) ?_
    refine VL.q (q_assign rfl) (by decide) ?_
    refine VL.to (fun _ _ h => h) ?_
    refine VC.seq ?_
    refine VC.seq ?_
    refine VC.region ?_
    refine VL.q (q_move rfl) (by decide) ?_
    refine VL.q (q_neq rfl rfl) (by decide) ?_
    refine VL.to (fun _ _ h => h) ?_
    refine VC.cond_ndec rfl (fun h21 => ?_) (fun h21 => ?_)
    ·
      replace hS := it_f h21 hS
      refine VC.seq ?_
      refine VC.region ?_
      refine VL.q (q_move rfl) (by decide) ?_
      refine VL.q (q_move rfl) (by decide) ?_
      refine VL.q (q_move rfl) (by decide) ?_
      obtain ⟨y25_2, ey25_2, hS⟩ := bd_s hS
      refine VL.callO (codec_Dec_fail_ct d_0_b q17_1_2 d_0.at_ q17_1_1 ey25_2) rfl (by decide) ?_
      rintro q25_2_0 rfl
      try dsimp only
      refine VL.to (fun _ _ h => h) ?_
      refine VC.keep [] rfl ?_
      refine VC.seq ?_
      refine VC.region ?_
      refine VL.q (q_assign rfl) (by decide) ?_
      refine VL.to (fun _ _ h => h) ?_
      cases hS
      exact VC.ret (fin1 (.inr rfl) rfl rfl (0, ⟨q25_2_0.b, q25_2_0.at_, q25_2_0.err⟩) rfl rfl (by (try dsimp only); exact InM.out) (by (try dsimp only); exact EntO.out))
    ·
      replace hS := it_t h21 hS
      refine VC.skip_to (fun _ _ h => h) ?_
      refine VC.keep [4] rfl ?_
      refine VC.seq ?_
      refine VC.region ?_
      refine VL.q (q_move rfl) (by decide) ?_
      refine VL.q (q_shr rfl rfl (by decide)) (by decide) ?_
      refine VL.q (q_convW Tryz.underlying239 Tryz.underlying2 rfl) (by decide) ?_
      refine VL.q (q_move rfl) (by decide) ?_
      refine VL.q (q_and rfl rfl) (by decide) ?_
      refine VL.q (q_convW Tryz.underlying239 Tryz.underlying2 rfl) (by decide) ?_
      refine VL.q (q_neg rfl) (by decide) ?_
      refine VL.q (q_xor rfl rfl) (by decide) ?_
      refine VL.q (q_assign rfl) (by decide) ?_
      refine VL.to (fun _ _ h => h) ?_
      cases hS
      exact VC.ret (fin1 (.inr rfl) rfl rfl ((bXor .i64 (IntKind.wrap .i64 (sHr .u64 q17_1_0 1)) (IntKind.wrap .i64 (0 - (IntKind.wrap .i64 (bAnd .u64 q17_1_0 1))))), ⟨q17_1_2.b, q17_1_2.at_, q17_1_2.err⟩) rfl rfl (by (try dsimp only); exact InM.out) (by (try dsimp only); exact EntO.out))

set_option maxHeartbeats 4000000 in
set_option maxRecDepth 100000 in
theorem codec_Dec_Err_ct (d_0_b : Nat) (d_0 : CodecDec) {r : Err} (hS : Sh.codec_Dec_Err d_0.pl = some r) :
    Ct Tryz.prog 111 [ptr d_0_b 0] (d_0.b.ok.and d_0.err.ok) (Blk d_0_b [d_0.b.val, i64 d_0.at_, d_0.err.val] 244) (X := Er) (fun x => x.val) (fun x => r = x.pl) (fun x => x.ok) (fun x => Blk d_0_b [d_0.b.val, i64 d_0.at_, d_0.err.val] 244) := by
  refine Ct.of Tryz.func111 rfl (by kernel_rfl) Tryz.ntmps111 (by simp) fun c => ?_
  unfold Sh.codec_Dec_Err at hS
  refine VC.seq ?_
  refine VC.region ?_
  refine VL.q (q_assign rfl) (by decide) ?_
  refine VL.to (fun _ _ h => h) ?_
  refine VC.seq ?_
  refine VC.region ?_
  refine VL.q (q_move rfl) (by decide) ?_
  refine VL.q (q_nilCheck rfl) (by decide) ?_
  refine VL.q (q_field gfa244_2 rfl) (by decide) ?_
  refine VL.q (q_fe gone38 rfl rfl) (by decide) ?_
  refine VL.q (q_assign rfl) (by decide) ?_
  refine VL.to (fun _ _ h => h) ?_
  cases hS
  exact VC.ret (fin1 (.inr rfl) rfl rfl d_0.err rfl rfl (by (try dsimp only); exact InM.out) (by (try dsimp only); exact EntO.out))

set_option maxHeartbeats 4000000 in
set_option maxRecDepth 100000 in
theorem codec_Dec_Text_ct (d_0_b : Nat) (d_0 : CodecDec) {r : Str × CodecDecP} (hS : Sh.codec_Dec_Text d_0.pl = some r) :
    Ct Tryz.prog 150 [ptr d_0_b 0] (d_0.b.ok.and d_0.err.ok) (Blk d_0_b [d_0.b.val, i64 d_0.at_, d_0.err.val] 244) (X := Str × CodecDec) (fun x => str x.1) (fun x => r = (x.1, x.2.pl)) (fun x => (x.2.b.ok.and x.2.err.ok)) (fun x => Blk d_0_b [x.2.b.val, i64 x.2.at_, x.2.err.val] 244) := by
  refine Ct.of Tryz.func150 rfl (by kernel_rfl) Tryz.ntmps150 (by simp) fun c => ?_
  unfold Sh.codec_Dec_Text at hS
  refine VC.seq ?_
  refine VC.region ?_
  refine VL.q (q_assign rfl) (by decide) ?_
  refine VL.to (fun _ _ h => h) ?_
  refine VC.seq ?_
  refine VC.region ?_
  refine VL.q (q_move rfl) (by decide) ?_
  refine VL.q (q_nilCheck rfl) (by decide) ?_
  refine VL.q (q_field gfa244_1 rfl) (by decide) ?_
  refine VL.q (q_fe gone3 rfl rfl) (by decide) ?_
  refine VL.q (q_assign rfl) (by decide) ?_
  refine VL.to (fun _ _ h => h) ?_
  refine VC.seq ?_
  refine VC.region ?_
  refine VL.q (q_move rfl) (by decide) ?_
  obtain ⟨y11_1, ey11_1, hS⟩ := bd_s hS
  refine VL.callO (codec_Dec_Int_ct d_0_b d_0 ey11_1) rfl (by decide) ?_
  rintro ⟨q11_1_0, q11_1_1⟩ rfl
  try dsimp only
  refine VL.q (q_assign rfl) (by decide) ?_
  refine VL.to (fun _ _ h => h) ?_
  refine VC.seq ?_
  refine VC.block ?_
  refine VC.seq ?_
  refine VC.region ?_
  refine VL.q (q_move rfl) (by decide) ?_
  refine VL.q (q_nilCheck rfl) (by decide) ?_
  refine VL.q (q_field gfa244_2 rfl) (by decide) ?_
  refine VL.q (q_fe gone38 rfl rfl) (by decide) ?_
  refine VL.q (q_erne Tryz.underlying38 rfl) (by decide) ?_
  refine VL.q (q_assign rfl) (by decide) ?_
  refine VL.to (fun _ _ h => h) ?_
  refine VC.keep [0, 3, 4, 12] rfl ?_
  refine VC.cond_ndec rfl (fun h12 => ?_) (fun h12 => ?_)
  ·
    replace hS := it_f h12 hS
    refine VC.seq ?_
    refine VC.region ?_
    refine VL.q (q_assign rfl) (by decide) ?_
    refine VL.to (fun _ _ h => h) ?_
    cases hS
    exact VC.ret (fin1 (.inr rfl) rfl rfl ([], ⟨q11_1_1.b, q11_1_1.at_, q11_1_1.err⟩) rfl rfl (by (try dsimp only); exact InM.out) (by (try dsimp only); exact EntO.out))
  ·
    replace hS := it_t h12 hS
    refine VC.seq ?_
    refine VC.region ?_
    refine VL.q (q_move rfl) (by decide) ?_
    refine VL.q (q_lss rfl rfl) (by decide) ?_
    refine VL.q (q_assign rfl) (by decide) ?_
    refine VL.to (fun _ _ h => h) ?_
    refine VC.cond_dec rfl (fun h18 => ?_) (fun h18 => ?_)
    ·
      replace hS := it_t h18 hS
      refine VC.seq ?_
      refine VC.region ?_
      refine VL.q (q_move rfl) (by decide) ?_
      refine VL.q (q_move rfl) (by decide) ?_
      obtain ⟨y23_2, ey23_2, hS⟩ := bd_s hS
      refine VL.callO (codec_Dec_fail_ct d_0_b q11_1_1 d_0.at_ 2 ey23_2) rfl (by decide) ?_
      rintro q23_2_0 rfl
      try dsimp only
      refine VL.to (fun _ _ h => h) ?_
      refine VC.seq ?_
      refine VC.region ?_
      refine VL.q (q_assign rfl) (by decide) ?_
      refine VL.to (fun _ _ h => h) ?_
      refine VC.keep [2] rfl ?_
      cases hS
      exact VC.ret (fin1 (.inr rfl) rfl rfl ([], ⟨q23_2_0.b, q23_2_0.at_, q23_2_0.err⟩) rfl rfl (by (try dsimp only); exact InM.out) (by (try dsimp only); exact EntO.out))
    ·
      replace hS := it_f h18 hS
      refine VC.seq ?_
      refine VC.draw ((List.range 13).map fun k => (k, true)) mixed (by kernel_rfl) (by kernel_rfl) (by kernel_rfl) ?_
      refine VD.q rfl (q_move rfl) (by decide) ?_
      refine VD.q rfl (q_move rfl) (by decide) ?_
      refine VD.q rfl (q_nilCheck rfl) (by decide) ?_
      refine VD.q rfl (q_field gfa244_0 rfl) (by decide) ?_
      refine VD.q rfl (q_fe gone23 rfl rfl) (by decide) ?_
      refine VD.q rfl (q_ln (s := q11_1_1.b) Tryz.underlying23 rfl) (by decide) ?_
      refine VD.q rfl (q_move rfl) (by decide) ?_
      refine VD.q rfl (q_nilCheck rfl) (by decide) ?_
      refine VD.q rfl (q_field gfa244_1 rfl) (by decide) ?_
      refine VD.q rfl (q_fe gone3 rfl rfl) (by decide) ?_
      obtain ⟨b35, hS⟩ := gd_s hS
      refine VD.q rfl (q_sub rfl rfl b35) (by decide) ?_
      refine VD.q rfl (q_gtr rfl rfl) (by decide) ?_
      refine VD.q rfl (q_assign rfl) (by decide) ?_
      refine VD.to (fun _ _ h => h) ?_
      refine VC.keep [0, 3, 4, 24] rfl ?_
      refine VC.cond_dec rfl (fun h24 => ?_) (fun h24 => ?_)
      ·
        replace hS := it_t h24 hS
        refine VC.seq ?_
        refine VC.region ?_
        refine VL.q (q_move rfl) (by decide) ?_
        refine VL.q (q_move rfl) (by decide) ?_
        obtain ⟨y39_3, ey39_3, hS⟩ := bd_s hS
        refine VL.callO (codec_Dec_fail_ct d_0_b q11_1_1 d_0.at_ 3 ey39_3) rfl (by decide) ?_
        rintro q39_3_0 rfl
        try dsimp only
        refine VL.to (fun _ _ h => h) ?_
        refine VC.seq ?_
        refine VC.region ?_
        refine VL.q (q_assign rfl) (by decide) ?_
        refine VL.to (fun _ _ h => h) ?_
        cases hS
        exact VC.ret (fin1 (.inr rfl) rfl rfl ([], ⟨q39_3_0.b, q39_3_0.at_, q39_3_0.err⟩) rfl rfl (by (try dsimp only); exact InM.out) (by (try dsimp only); exact EntO.out))
      ·
        replace hS := it_f h24 hS
        refine VC.skip_to (fun _ _ h => h) ?_
        refine VC.seq ?_
        refine VC.draw ((List.range 17).map fun k => (k, true)) mixed (by kernel_rfl) (by kernel_rfl) (by kernel_rfl) ?_
        refine VD.q rfl (q_move rfl) (by decide) ?_
        refine VD.q rfl (q_nilCheck rfl) (by decide) ?_
        refine VD.q rfl (q_field gfa244_0 rfl) (by decide) ?_
        refine VD.q rfl (q_fe gone23 rfl rfl) (by decide) ?_
        refine VD.q rfl (q_move rfl) (by decide) ?_
        refine VD.q rfl (q_nilCheck rfl) (by decide) ?_
        refine VD.q rfl (q_field gfa244_1 rfl) (by decide) ?_
        refine VD.q rfl (q_fe gone3 rfl rfl) (by decide) ?_
        refine VD.q rfl (q_move rfl) (by decide) ?_
        refine VD.q rfl (q_nilCheck rfl) (by decide) ?_
        refine VD.q rfl (q_field gfa244_1 rfl) (by decide) ?_
        refine VD.q rfl (q_fe gone3 rfl rfl) (by decide) ?_
        refine VD.q rfl (q_move rfl) (by decide) ?_
        obtain ⟨b53, hS⟩ := gd_s hS
        refine VD.q rfl (q_add rfl rfl b53) (by decide) ?_
        obtain ⟨b54, hS⟩ := gd_s hS
        refine VD.smidK rfl Tryz.underlying23 gsz5 rfl rfl rfl b54.1 b54.2.1 (b54.2.2) (by decide) fun s54_4 hs54_4 Qs54_4 => ?_
        replace hS := lt_to hs54_4 hS
        refine VD.q rfl (q_b2s (s := s54_4) Tryz.underlying23 Tryz.underlying5 Tryz.underlying9 rfl) (by decide) ?_
        refine VD.q rfl (q_assign rfl) (by decide) ?_
        refine VD.to (fun _ _ h => h) ?_
        refine VC.keep [0, 4, 5] rfl ?_
        refine VC.seq ?_
        refine VC.region ?_
        refine VL.q (q_move rfl) (by decide) ?_
        refine VL.q (q_nilCheck rfl) (by decide) ?_
        refine VL.q (q_field gfa244_1 rfl) (by decide) ?_
        refine VL.q (q_fe gone3 rfl rfl) (by decide) ?_
        refine VL.q (q_move rfl) (by decide) ?_
        obtain ⟨b61, hS⟩ := gd_s hS
        refine VL.q (q_add rfl rfl b61) (by decide) ?_
        refine VL.q (q_nilCheck rfl) (by decide) ?_
        refine VL.q (q_field gfa244_1 rfl) (by decide) ?_
        refine VL.store (vc := [i64 (q11_1_1.at_ + q11_1_0)]) (cs' := [q11_1_1.b.val, i64 (q11_1_1.at_ + q11_1_0), q11_1_1.err.val]) rfl rfl rfl gsz3 rfl rfl (Nat.le_of_ble_eq_true rfl) rfl ?_
        refine VL.to (fun _ _ h => h) ?_
        refine VC.keep [5] rfl ?_
        refine VC.seq ?_
        refine VC.region ?_
        refine VL.q (q_move rfl) (by decide) ?_
        refine VL.q (q_assign rfl) (by decide) ?_
        refine VL.to (fun _ _ h => h) ?_
        cases hS
        exact VC.ret (fin1 (.inr rfl) rfl rfl (s54_4.l, ⟨q11_1_1.b, (q11_1_1.at_ + q11_1_0), q11_1_1.err⟩) rfl rfl (by (try dsimp only); exact InM.out) (by (try dsimp only); exact EntO.out))

set_option maxHeartbeats 4000000 in
set_option maxRecDepth 100000 in
theorem index_read_ct (d_0_b : Nat) (d_0 : CodecDec) {r : IndexEntry × CodecDecP} (hS : Sh.index_read d_0.pl = some r) :
    Ct Tryz.prog 126 [ptr d_0_b 0] (d_0.b.ok.and d_0.err.ok) (Blk d_0_b [d_0.b.val, i64 d_0.at_, d_0.err.val] 244) (X := IndexEntry × CodecDec) (fun x => .agg #[str x.1.path, i64 x.1.stage, i64 x.1.mode, str x.1.data, i64 x.1.time, i64 x.1.size]) (fun x => r = (x.1, x.2.pl)) (fun x => (x.2.b.ok.and x.2.err.ok)) (fun x => Blk d_0_b [x.2.b.val, i64 x.2.at_, x.2.err.val] 244) := by
  refine Ct.of Tryz.func126 rfl (by kernel_rfl) Tryz.ntmps126 (by simp) fun c => ?_
  unfold Sh.index_read at hS
  refine VC.seq ?_
  refine VC.region ?_
  refine VL.alloc (cs := [str [], i64 0, i64 0, str [], i64 0, i64 0]) (by kernel_rfl) (by decide) fun b2_1 => ?_
  refine VL.to (fun _ _ h => h) ?_
  refine VC.seq ?_
  refine VC.region ?_
  refine VL.q (q_move rfl) (by decide) ?_
  obtain ⟨y4_2, ey4_2, hS⟩ := bd_s hS
  refine VL.callO (codec_Dec_Text_ct d_0_b d_0 ey4_2) rfl (by decide) ?_
  rintro ⟨q4_2_0, q4_2_1⟩ rfl
  try dsimp only
  refine VL.q (q_move rfl) (by decide) ?_
  obtain ⟨y6_3, ey6_3, hS⟩ := bd_s hS
  refine VL.callO (codec_Dec_Int_ct d_0_b q4_2_1 ey6_3) rfl (by decide) ?_
  rintro ⟨q6_3_0, q6_3_1⟩ rfl
  try dsimp only
  refine VL.q (q_move rfl) (by decide) ?_
  obtain ⟨y8_4, ey8_4, hS⟩ := bd_s hS
  refine VL.callO (codec_Dec_Int_ct d_0_b q6_3_1 ey8_4) rfl (by decide) ?_
  rintro ⟨q8_4_0, q8_4_1⟩ rfl
  try dsimp only
  refine VL.q (q_move rfl) (by decide) ?_
  obtain ⟨y10_5, ey10_5, hS⟩ := bd_s hS
  refine VL.callO (codec_Dec_Text_ct d_0_b q8_4_1 ey10_5) rfl (by decide) ?_
  rintro ⟨q10_5_0, q10_5_1⟩ rfl
  try dsimp only
  refine VL.q (q_move rfl) (by decide) ?_
  obtain ⟨y12_6, ey12_6, hS⟩ := bd_s hS
  refine VL.callO (codec_Dec_Int_ct d_0_b q10_5_1 ey12_6) rfl (by decide) ?_
  rintro ⟨q12_6_0, q12_6_1⟩ rfl
  try dsimp only
  refine VL.q (q_move rfl) (by decide) ?_
  obtain ⟨y14_7, ey14_7, hS⟩ := bd_s hS
  refine VL.callO (codec_Dec_Int_ct d_0_b q12_6_1 ey14_7) rfl (by decide) ?_
  rintro ⟨q14_7_0, q14_7_1⟩ rfl
  try dsimp only
  refine VL.q (q_build (vs := [(0, str q4_2_0), (1, i64 q6_3_0), (2, i64 q8_4_0), (3, str q10_5_0), (4, i64 q12_6_0), (5, i64 q14_7_0)]) (cs := #[str q4_2_0, i64 q6_3_0, i64 q8_4_0, str q10_5_0, i64 q12_6_0, i64 q14_7_0]) rfl (by kernel_rfl)) (by decide) ?_
  refine VL.store (vc := [str q4_2_0, i64 q6_3_0, i64 q8_4_0, str q10_5_0, i64 q12_6_0, i64 q14_7_0]) (cs' := [str q4_2_0, i64 q6_3_0, i64 q8_4_0, str q10_5_0, i64 q12_6_0, i64 q14_7_0]) rfl rfl rfl gsz49 rfl rfl (Nat.le_of_ble_eq_true rfl) rfl ?_
  refine VL.to (fun _ _ h => h) ?_
  refine VC.keep [2] rfl ?_
  cases hS
  exact VC.ret (finG (vs := [.agg #[str q4_2_0, i64 q6_3_0, i64 q8_4_0, str q10_5_0, i64 q12_6_0, i64 q14_7_0]]) (.inr rfl) rfl (RVs.cell gagg49 rfl rfl Rd.blk (RVs.nil)) (⟨q4_2_0, q6_3_0, q8_4_0, q10_5_0, q12_6_0, q14_7_0⟩, ⟨q14_7_1.b, q14_7_1.at_, q14_7_1.err⟩) rfl rfl (by (try dsimp only); exact InM.out) (by (try dsimp only); exact EntO.out))

set_option maxHeartbeats 4000000 in
set_option maxRecDepth 100000 in
theorem codec_Dec_Left_ct (d_0_b : Nat) (d_0 : CodecDec) {r : Int} (hS : Sh.codec_Dec_Left d_0.pl = some r) :
    Ct Tryz.prog 112 [ptr d_0_b 0] (d_0.b.ok.and (d_0.err.ok.and (Cells d_0_b 0 [d_0.b.val, i64 d_0.at_, d_0.err.val]))) (Ow.emp) (X := Unit) (fun _ => i64 r) (fun _ => True) (fun _ => Mo.tt) (fun _ => Ow.emp) := by
  refine Ct.of Tryz.func112 rfl (by kernel_rfl) Tryz.ntmps112 (by simp) fun c => ?_
  unfold Sh.codec_Dec_Left at hS
  refine VC.seq ?_
  refine VC.region ?_
  refine VL.q (q_assign rfl) (by decide) ?_
  refine VL.to (fun _ _ h => h) ?_
  refine VC.seq ?_
  refine VC.seq ?_
  refine VC.region ?_
  refine VL.q (q_move rfl) (by decide) ?_
  refine VL.q (q_nilCheck rfl) (by decide) ?_
  refine VL.q (q_field gfa244_2 rfl) (by decide) ?_
  refine VL.q (q_fm gone38 rfl rfl) (by decide) ?_
  refine VL.q (q_erne Tryz.underlying38 rfl) (by decide) ?_
  refine VL.to (fun _ _ h => h) ?_
  refine VC.cond_ndec rfl (fun h7 => ?_) (fun h7 => ?_)
  ·
    replace hS := it_f h7 hS
    refine VC.seq ?_
    refine VC.region ?_
    refine VL.q (q_assign rfl) (by decide) ?_
    refine VL.to (fun _ _ h => h) ?_
    cases hS
    exact VC.ret (fin1 (.inr rfl) rfl rfl () rfl trivial (fun _ _ => trivial) (fun _ _ => trivial))
  ·
    replace hS := it_t h7 hS
    refine VC.skip_to (fun _ _ h => h) ?_
    refine VC.seq ?_
    refine VC.draw ((List.range 11).map fun k => (k, true)) mixed (by kernel_rfl) (by kernel_rfl) (by kernel_rfl) ?_
    refine VD.q rfl (q_move rfl) (by decide) ?_
    refine VD.q rfl (q_nilCheck rfl) (by decide) ?_
    refine VD.q rfl (q_field gfa244_0 rfl) (by decide) ?_
    refine VD.q rfl (q_fm gone23 rfl rfl) (by decide) ?_
    refine VD.q rfl (q_ln (s := d_0.b) Tryz.underlying23 rfl) (by decide) ?_
    refine VD.q rfl (q_move rfl) (by decide) ?_
    refine VD.q rfl (q_nilCheck rfl) (by decide) ?_
    refine VD.q rfl (q_field gfa244_1 rfl) (by decide) ?_
    refine VD.q rfl (q_fm gone3 rfl rfl) (by decide) ?_
    obtain ⟨b17, hS⟩ := gd_s hS
    refine VD.q rfl (q_sub rfl rfl b17) (by decide) ?_
    refine VD.q rfl (q_assign rfl) (by decide) ?_
    refine VD.to (fun _ _ h => h) ?_
    refine VC.keep [2] rfl ?_
    cases hS
    exact VC.ret (fin1 (.inr rfl) rfl rfl () rfl trivial (fun _ _ => trivial) (fun _ _ => trivial))

set_option maxHeartbeats 4000000 in
set_option maxRecDepth 100000 in
theorem index_Decode_ct (b_0 : Sv UInt8) {r : List IndexEntry × Err} (hS : Sh.index_Decode b_0.l = some r) :
    Ct Tryz.prog 51 [b_0.val] b_0.ok (Ow.emp) (X := Sv IndexEntry × Er) (fun x => .tuple #[x.1.val, x.2.val]) (fun x => r = (x.1.l, x.2.pl)) (fun x => (x.1.ok.and x.2.ok)) (fun x => Ow.emp) := by
  refine Ct.of Tryz.func51 rfl (by kernel_rfl) Tryz.ntmps51 (by simp) fun c => ?_
  unfold Sh.index_Decode at hS
  refine VC.seq ?_
  refine VC.region ?_
  refine VL.q (q_assign rfl) (by decide) ?_
  refine VL.q (q_assign rfl) (by decide) ?_
  refine VL.to (fun _ _ h => h) ?_
  refine VC.seq ?_
  refine VC.region ?_
  refine VL.q (q_move rfl) (by decide) ?_
  obtain ⟨y14_1, ey14_1, hS⟩ := bd_s hS
  refine VL.callF (seal_Open_ct b_0 ey14_1) rfl (by decide) ?_
  rintro ⟨q14_1_0, q14_1_1⟩ rfl
  try dsimp only
  refine VL.q (q_move rfl) (by decide) ?_
  refine VL.q (q_extract rfl rfl) (by decide) ?_
  refine VL.q (q_extract rfl rfl) (by decide) ?_
  refine VL.q (q_assign rfl) (by decide) ?_
  refine VL.q (q_assign rfl) (by decide) ?_
  refine VL.to (fun _ _ h => h) ?_
  refine VC.seq ?_
  refine VC.seq ?_
  refine VC.region ?_
  refine VL.q (q_move rfl) (by decide) ?_
  refine VL.q (q_erne Tryz.underlying38 rfl) (by decide) ?_
  refine VL.to (fun _ _ h => h) ?_
  refine VC.keep [4, 5, 18] rfl ?_
  refine VC.cond_ndec rfl (fun h18 => ?_) (fun h18 => ?_)
  ·
    replace hS := it_f h18 hS
    refine VC.seq ?_
    refine VC.region ?_
    refine VL.q (q_move rfl) (by decide) ?_
    refine VL.q (q_assign rfl) (by decide) ?_
    refine VL.q (q_assign rfl) (by decide) ?_
    refine VL.to (fun _ _ h => h) ?_
    cases hS
    exact VC.ret (fin2 (.inr rfl) rfl rfl rfl (⟨none, 0, []⟩, q14_1_1) rfl rfl (by (try dsimp only); exact InM.out) (fun _ _ => trivial))
  ·
    replace hS := it_t h18 hS
    refine VC.skip_to (fun _ _ h => h) ?_
    refine VC.seq ?_
    refine VC.region ?_
    refine VL.q (q_move rfl) (by decide) ?_
    obtain ⟨y21_2, ey21_2, hS⟩ := bd_s hS
    refine VL.callO (codec_Of_ct q14_1_0 ey21_2) rfl (by decide) ?_
    rintro ⟨q21_2_0, q21_2_1⟩ rfl
    try dsimp only
    refine VL.q (q_assign rfl) (by decide) ?_
    refine VL.to (fun _ _ h => h) ?_
    refine VC.seq ?_
    refine VC.region ?_
    refine VL.q (q_move rfl) (by decide) ?_
    obtain ⟨y23_3, ey23_3, hS⟩ := bd_s hS
    refine VL.callO (codec_Dec_Int_ct q21_2_0 q21_2_1 ey23_3) rfl (by decide) ?_
    rintro ⟨q23_3_0, q23_3_1⟩ rfl
    try dsimp only
    refine VL.q (q_assign rfl) (by decide) ?_
    refine VL.to (fun _ _ h => h) ?_
    refine VC.seq ?_
    refine VC.region ?_
    refine VL.q (q_assign rfl) (by decide) ?_
    refine VL.to (fun _ _ h => h) ?_
    refine VC.cutJ (S := Sv IndexEntry × Sv UInt8 × Int × Er) (fun sg => (sg.1.l, sg.2.1.l, sg.2.2.1, sg.2.2.2.pl)) (fun sg => [(6, ptr q21_2_0 0), (7, i64 q23_3_0), (8, sg.1.val)]) (fun sg => (sg.2.1.ok.and sg.2.2.2.ok)) (fun sg => Ow.star (Blk q21_2_0 [sg.2.1.val, i64 sg.2.2.1, sg.2.2.2.val] 244) (Ow.star (Sv.own sg.1 49) (Ow.emp))) hS ?_ ?_
    · -- up to where ways meet
      clear hS
      intro k8 hS
      refine VC.seq ?_
      refine VC.region ?_
      refine VL.q (q_assign rfl) (by decide) ?_
      refine VL.to (fun _ _ h => h) ?_
      refine VC.keep [6, 7, 8, 9] rfl ?_
      refine VC.block ?_
      refine VC.nilO (⟨none, 0, []⟩ : Sv IndexEntry) 49 ⟨rfl, rfl⟩ ?_
      refine VC.iter (S := Sv IndexEntry × Int × Sv UInt8 × Int × Er) (fun sg => (sg.1.l, sg.2.1, sg.2.2.1.l, sg.2.2.2.1, sg.2.2.2.2.pl)) (fun sg => [(6, ptr q21_2_0 0), (7, i64 q23_3_0), (8, sg.1.val), (9, i64 sg.2.1)]) (fun sg => (sg.2.2.1.ok.and sg.2.2.2.2.ok)) (fun sg => Ow.star (Blk q21_2_0 [sg.2.2.1.val, i64 sg.2.2.2.1, sg.2.2.2.2.val] 244) (Ow.star (Sv.own sg.1 49) (Ow.emp))) (⟨none, 0, []⟩, 0, q23_3_1.b, q23_3_1.at_, q23_3_1.err) [6, 7, 8, 9] hS rfl ?_
      clear hS
      rintro ⟨out8_9, i9_10, c0_11, c1_12, c2_13⟩ m1 y1 hS hK1
      show VC _ _ _ _ _ [(6, ptr q21_2_0 0), (7, i64 q23_3_0), (8, out8_9.val), (9, i64 i9_10)] (Mo.and (c0_11.ok.and c2_13.ok) _) (Ow.star (Blk q21_2_0 [c0_11.val, i64 c1_12, c2_13.val] 244) (Ow.star (Sv.own out8_9 49) (Ow.emp)))
      refine VC.seq ?_
      refine VC.seq ?_
      refine VC.region ?_
      refine VL.q (q_move rfl) (by decide) ?_
      refine VL.q (q_move rfl) (by decide) ?_
      refine VL.q (q_lss rfl rfl) (by decide) ?_
      refine VL.q (q_move rfl) (by decide) ?_
      refine VL.split_dec 27 rfl (fun h27 => ?_) (fun h27 => ?_)
      ·
        replace hS := it_t h27 hS
        refine VL.gy rfl rfl (q_move rfl) (by decide) ?_
        refine VL.guard rfl rfl ?_
        obtain ⟨y29_14, ey29_14, hS⟩ := bd_s hS
        refine VL.callO (codec_Dec_Err_ct q21_2_0 (⟨c0_11, c1_12, c2_13⟩ : CodecDec) ey29_14) rfl (by decide) ?_
        rintro q29_14_0 rfl
        try dsimp only
        refine VL.gy rfl rfl (q_ereq Tryz.underlying38 rfl) (by decide) ?_
        refine VL.q (q_pick_t rfl rfl) (by decide) ?_
        refine VL.to (fun _ _ h => h) ?_
        refine VC.keep [6, 7, 8, 9, 31] rfl ?_
        refine VC.cond_dec rfl (fun h31 => ?_) (fun h31 => ?_)
        ·
          replace hS := it_t h31 hS
          refine VC.skip_to (fun _ _ h => h) ?_
          refine VC.seq ?_
          refine VC.block ?_
          refine VC.region ?_
          refine VL.q (q_move rfl) (by decide) ?_
          refine VL.q (q_move rfl) (by decide) ?_
          obtain ⟨y36_15, ey36_15, hS⟩ := bd_s hS
          refine VL.callO (index_read_ct q21_2_0 (⟨c0_11, c1_12, c2_13⟩ : CodecDec) ey36_15) rfl (by decide) ?_
          rintro ⟨q36_15_0, q36_15_1⟩ rfl
          try dsimp only
          refine VL.lit (α := IndexEntry) (xs := [.tmp 36]) (vs := [.agg #[str q36_15_0.path, i64 q36_15_0.stage, i64 q36_15_0.mode, str q36_15_0.data, i64 q36_15_0.time, i64 q36_15_0.size]]) [⟨q36_15_0.path, q36_15_0.stage, q36_15_0.mode, q36_15_0.data, q36_15_0.time, q36_15_0.size⟩] Tryz.underlying41 glit49 (by decide) rfl rfl rfl rfl (by decide) (fun _ _ _ _ => trivial) (by decide) (fun s37_16 hs37_16 => ?_) (by decide)
          replace hS := lt_to hs37_16 hS
          obtain ⟨b38, hS⟩ := gd_s hS
          refine VL.app (s := out8_9) (r := s37_16) Tryz.underlying41 gapp49 (by decide) rfl Fo.out (ap1 b38) (ap2 b38 (by decide)) (by decide) (fun s38_18 hs38_18 => ?_)
          replace hS := lt_to hs38_18 hS
          refine VL.q (q_assign rfl) (by decide) ?_
          refine VL.to (fun _ _ h => h) ?_
          refine VC.region ?_
          refine VL.q (q_move rfl) (by decide) ?_
          obtain ⟨b33, hS⟩ := gd_s hS
          refine VL.q (q_add rfl rfl b33) (by decide) ?_
          refine VL.q (q_assign rfl) (by decide) ?_
          refine VL.rnd (s38_18, (i9_10 + 1), q36_15_1.b, q36_15_1.at_, q36_15_1.err) [6, 7, 8, 9] (fun _ _ h => h) (go2 hS hK1) rfl
        ·
          replace hS := it_f h31 hS
          replace hS := up2 hS hK1
          refine VC.exit_mt (out8_9, c0_11, c1_12, c2_13) [6, 7, 8] (fun _ _ h => h) hS rfl
      ·
        replace hS := it_f h27 hS
        refine VL.gn rfl rfl rfl (by decide) ?_
        refine VL.gn rfl rfl rfl (by decide) ?_
        refine VL.gn rfl rfl rfl (by decide) ?_
        refine VL.q (q_pick_f rfl rfl) (by decide) ?_
        refine VL.to (fun _ _ h => h) ?_
        refine VC.keep [6, 7, 8, 9, 31] rfl ?_
        refine VC.cond_f rfl ?_
        replace hS := up2 hS hK1
        refine VC.exit_mt (out8_9, c0_11, c1_12, c2_13) [6, 7, 8] (fun _ _ h => h) hS rfl
    · -- from there
      clear hS
      rintro ⟨out8_4, c0_5, c1_6, c2_7⟩ hS
      show VC _ _ _ _ _ [(6, ptr q21_2_0 0), (7, i64 q23_3_0), (8, out8_4.val)] (Mo.and (c0_5.ok.and c2_7.ok) _) (Ow.star (Blk q21_2_0 [c0_5.val, i64 c1_6, c2_7.val] 244) (Ow.star (Sv.own out8_4 49) (Ow.emp)))
      refine VC.seq ?_
      refine VC.seq ?_
      refine VC.region ?_
      refine VL.q (q_move rfl) (by decide) ?_
      obtain ⟨y40_20, ey40_20, hS⟩ := bd_s hS
      refine VL.callO (codec_Dec_Err_ct q21_2_0 (⟨c0_5, c1_6, c2_7⟩ : CodecDec) ey40_20) rfl (by decide) ?_
      rintro q40_20_0 rfl
      try dsimp only
      refine VL.q (q_assign rfl) (by decide) ?_
      refine VL.to (fun _ _ h => h) ?_
      refine VC.seq ?_
      refine VC.region ?_
      refine VL.q (q_move rfl) (by decide) ?_
      refine VL.q (q_erne Tryz.underlying38 rfl) (by decide) ?_
      refine VL.to (fun _ _ h => h) ?_
      refine VC.cond_ndec rfl (fun h42 => ?_) (fun h42 => ?_)
      ·
        replace hS := it_f h42 hS
        refine VC.seq ?_
        refine VC.region ?_
        refine VL.q (q_move rfl) (by decide) ?_
        refine VL.q (q_assign rfl) (by decide) ?_
        refine VL.q (q_assign rfl) (by decide) ?_
        refine VL.to (fun _ _ h => h) ?_
        refine VC.keep [2, 3] rfl ?_
        cases hS
        exact VC.ret (fin2 (.inr rfl) rfl rfl rfl (⟨none, 0, []⟩, q40_20_0) rfl rfl (by (try dsimp only); exact InM.out) (fun _ _ => trivial))
      ·
        replace hS := it_t h42 hS
        refine VC.skip_to (fun _ _ h => h) ?_
        refine VC.seq ?_
        refine VC.cutJ (S := Bool) (fun (x50_21 : Bool) => x50_21) (fun (x50_21 : Bool) => [(8, out8_4.val), (50, .bool x50_21)]) (fun (x50_21 : Bool) => Mo.tt) (fun (x50_21 : Bool) => Ow.star (Blk q21_2_0 [c0_5.val, i64 c1_6, c2_7.val] 244) (Ow.star (Sv.own out8_4 49) (Ow.emp))) hS ?_ ?_
        · -- up to where ways meet
          clear hS
          intro k22 hS
          refine VC.region ?_
          refine VL.q (q_move rfl) (by decide) ?_
          refine VL.q (q_lss rfl rfl) (by decide) ?_
          refine VL.q (q_move rfl) (by decide) ?_
          refine VL.split_dec 46 rfl (fun h46 => ?_) (fun h46 => ?_)
          ·
            replace hS := it_t h46 hS
            refine VL.gn rfl rfl rfl (by decide) ?_
            refine VL.gn rfl rfl rfl (by decide) ?_
            refine VL.gn rfl rfl rfl (by decide) ?_
            refine VL.q (q_pick_t rfl rfl) (by decide) ?_
            refine VL.mt true [8, 50] (fun _ _ h => h) hS rfl
          ·
            replace hS := it_f h46 hS
            refine VL.gy rfl rfl (q_move rfl) (by decide) ?_
            obtain ⟨y48_23, ey48_23, hS⟩ := bd_s hS
            refine VL.gy rfl rfl (q_callR (codec_Dec_Left_ct q21_2_0 (⟨c0_5, c1_6, c2_7⟩ : CodecDec) ey48_23) rfl (fun _ _ => rfl)) (by decide) ?_
            refine VL.gy rfl rfl (q_gtr rfl rfl) (by decide) ?_
            refine VL.q (q_pick_f rfl rfl) (by decide) ?_
            refine VL.mt (decide (0 < y48_23)) [8, 50] (fun _ _ h => h) hS rfl
        · -- from there
          clear hS
          rintro x50_21 hS
          show VC _ _ _ _ _ [(8, out8_4.val), (50, .bool x50_21)] (Mo.and Mo.tt _) (Ow.star (Blk q21_2_0 [c0_5.val, i64 c1_6, c2_7.val] 244) (Ow.star (Sv.own out8_4 49) (Ow.emp)))
          refine VC.cond rfl (fun h50 => ?_) (fun h50 => ?_)
          ·
            replace hS := it_t h50 hS
            refine VC.seq ?_
            refine VC.region ?_
            refine VL.q (q_mkif Tryz.underlying99 (fun _ h => by cases h) rfl) (by decide) ?_
            refine VL.q (q_build (vs := [(0, str [105, 110, 100, 101, 120]), (1, i64 0), (2, (Er.no 2).val)]) (cs := #[str [105, 110, 100, 101, 120], i64 0, (Er.no 2).val]) rfl (by kernel_rfl)) (by decide) ?_
            refine VL.box (cs := [str [105, 110, 100, 101, 120], i64 0, (Er.no 2).val]) rfl rfl (by decide) fun b53_24 => ?_
            refine VL.shutB b53_24 ?_
            refine VL.q (q_mkif Tryz.underlying100 (fun _ h => by cases h) rfl) (by decide) ?_
            refine VL.q (q_assign rfl) (by decide) ?_
            refine VL.q (q_assign rfl) (by decide) ?_
            refine VL.to (fun _ _ h => h) ?_
            cases hS
            exact VC.ret (fin2 (.inr rfl) rfl rfl rfl (⟨none, 0, []⟩, (Er.fault b53_24 [105, 110, 100, 101, 120] 0 (Er.no 2))) rfl rfl (by (try dsimp only); exact InM.out) (fun _ _ => trivial))
          ·
            replace hS := it_b h50 hS
            refine VC.skip_to (fun _ _ h => h) ?_
            refine VC.seq ?_
            refine VC.seq ?_
            refine VC.region ?_
            refine VL.q (q_move rfl) (by decide) ?_
            refine VL.shut out8_4 49 (fun _ _ _ _ => trivial) ?_
            obtain ⟨y56_25, ey56_25, hS⟩ := bd_s hS
            refine VL.callF (index_Check_ct out8_4 ey56_25) rfl (by decide) ?_
            rintro q56_25_0 rfl
            try dsimp only
            refine VL.q (q_assign rfl) (by decide) ?_
            refine VL.to (fun _ _ h => h) ?_
            refine VC.seq ?_
            refine VC.region ?_
            refine VL.q (q_move rfl) (by decide) ?_
            refine VL.q (q_erne Tryz.underlying38 rfl) (by decide) ?_
            refine VL.to (fun _ _ h => h) ?_
            refine VC.cond_ndec rfl (fun h58 => ?_) (fun h58 => ?_)
            ·
              replace hS := it_f h58 hS
              refine VC.seq ?_
              refine VC.region ?_
              refine VL.q (q_move rfl) (by decide) ?_
              refine VL.q (q_assign rfl) (by decide) ?_
              refine VL.q (q_assign rfl) (by decide) ?_
              refine VL.to (fun _ _ h => h) ?_
              cases hS
              exact VC.ret (fin2 (.inr rfl) rfl rfl rfl (⟨none, 0, []⟩, q56_25_0) rfl rfl (by (try dsimp only); exact InM.out) (fun _ _ => trivial))
            ·
              replace hS := it_t h58 hS
              refine VC.skip_to (fun _ _ h => h) ?_
              refine VC.seq ?_
              refine VC.region ?_
              refine VL.q (q_move rfl) (by decide) ?_
              obtain ⟨y61_26, ey61_26, hS⟩ := bd_s hS
              refine VL.callF (slices_Clip_index_Entry_index_Entry_ct out8_4 ey61_26) rfl (by decide) ?_
              rintro q61_26_0 rfl
              try dsimp only
              refine VL.q (q_assign rfl) (by decide) ?_
              refine VL.q (q_assign rfl) (by decide) ?_
              refine VL.to (fun _ _ h => h) ?_
              refine VC.keep [2, 3] rfl ?_
              cases hS
              exact VC.ret (fin2 (.inr rfl) rfl rfl rfl (q61_26_0, .nil) rfl rfl (by (try dsimp only); exact InM.out) (fun _ _ => trivial))

set_option maxHeartbeats 4000000 in
set_option maxRecDepth 100000 in
theorem slices_Clip_files_Row_files_File_ct (s_0 : Sv FilesFile) {r : List FilesFile} (hS : Sh.slices_Clip_files_Row_files_File s_0.l = some r) :
    Ct Tryz.prog 68 [s_0.val] s_0.ok (Ow.emp) (X := Sv FilesFile) (fun x => x.val) (fun x => r = x.l) (fun x => x.ok) (fun x => Ow.emp) := by
  refine Ct.of Tryz.func68 rfl (by kernel_rfl) Tryz.ntmps68 (by simp) fun c => ?_
  unfold Sh.slices_Clip_files_Row_files_File at hS
  refine VC.seq ?_
  refine VC.region ?_
  refine VL.q (q_assign rfl) (by decide) ?_
  refine VL.to (fun _ _ h => h) ?_
  refine VC.seq ?_
  refine VC.region ?_
  refine VL.q (q_move rfl) (by decide) ?_
  refine VL.q (q_move rfl) (by decide) ?_
  refine VL.q (q_ln (s := s_0) Tryz.underlying60 rfl) (by decide) ?_
  refine VL.q (q_move rfl) (by decide) ?_
  refine VL.q (q_ln (s := s_0) Tryz.underlying60 rfl) (by decide) ?_
  obtain ⟨b8, hS⟩ := gd_s hS
  refine VL.stom Tryz.underlying60 gsz108 rfl rfl rfl b8.1 (b8.2) (by decide) fun s8_1 hs8_1 => ?_
  replace hS := lt_to hs8_1 hS
  refine VL.q (q_assign rfl) (by decide) ?_
  refine VL.to (fun _ _ h => h) ?_
  cases hS
  exact VC.ret (fin1 (.inr rfl) rfl rfl s8_1 rfl rfl (by (try dsimp only); exact InM.out) (fun _ _ => trivial))

set_option maxHeartbeats 4000000 in
set_option maxRecDepth 100000 in
theorem index_Stage_ct (l_0 : Sv IndexEntry) (n_1 : Int) {r : List FilesFile} (hS : Sh.index_Stage l_0.l n_1 = some r) :
    Ct Tryz.prog 23 [l_0.val, i64 n_1] l_0.ok (Ow.emp) (X := Sv FilesFile) (fun x => x.val) (fun x => r = x.l) (fun x => x.ok) (fun x => Ow.emp) := by
  refine Ct.of Tryz.func23 rfl (by kernel_rfl) Tryz.ntmps23 (by simp) fun c => ?_
  unfold Sh.index_Stage at hS
  refine VC.seq ?_
  refine VC.region ?_
  refine VL.q (q_assign rfl) (by decide) ?_
  refine VL.to (fun _ _ h => h) ?_
  refine VC.seq ?_
  refine VC.region ?_
  refine VL.q (q_assign rfl) (by decide) ?_
  refine VL.to (fun _ _ h => h) ?_
  refine VC.seq ?_
  refine VC.seq ?_
  refine VC.region ?_
  refine VL.q (q_move rfl) (by decide) ?_
  refine VL.q (q_ln (s := l_0) Tryz.underlying41 rfl) (by decide) ?_
  refine VL.q (q_move rfl) (by decide) ?_
  refine VL.to (fun _ _ h => h) ?_
  refine VC.block ?_
  refine VC.nilO (⟨none, 0, []⟩ : Sv FilesFile) 108 ⟨rfl, rfl⟩ ?_
  refine VC.iter (S := Sv FilesFile × Int) (fun sg => (sg.1.l, sg.2)) (fun sg => [(1, i64 n_1), (5, sg.1.val), (8, l_0.val), (9, i64 (l_0.l.length : Int)), (10, i64 sg.2)]) (fun sg => Mo.tt) (fun sg => Ow.star (Sv.own sg.1 108) (Ow.emp)) (⟨none, 0, []⟩, 0) [1, 5, 8, 9, 10] hS rfl ?_
  clear hS
  rintro ⟨out5_1, x10_2⟩ m1 y1 hS hK1
  show VC _ _ _ _ _ [(1, i64 n_1), (5, out5_1.val), (8, l_0.val), (9, i64 (l_0.l.length : Int)), (10, i64 x10_2)] (Mo.and Mo.tt _) (Ow.star (Sv.own out5_1 108) (Ow.emp))
  refine VC.seq ?_
  refine VC.region ?_
  refine VL.q (q_lss rfl rfl) (by decide) ?_
  refine VL.to (fun _ _ h => h) ?_
  refine VC.seq ?_
  refine VC.cond_dec rfl (fun h11 => ?_) (fun h11 => ?_)
  ·
    replace hS := it_t h11 hS
    refine VC.skip_to (fun _ _ h => h) ?_
    refine VC.seq ?_
    refine VC.block ?_
    refine VC.seq ?_
    refine VC.region ?_
    obtain ⟨z12_3, nz12_3, hz12_3, hS⟩ := at_s hS
    refine VL.q (q_ixm (s := l_0) Tryz.underlying41 gsz49 rfl rfl nz12_3 (lt_of_get nz12_3 hz12_3)) (by decide) ?_
    refine VL.q (q_els (s := l_0) gagg49 rfl rfl hz12_3) (by decide) ?_
    refine VL.alloc (cs := [str [], i64 0, i64 0, str [], i64 0, i64 0]) (by kernel_rfl) (by decide) fun b7_4 => ?_
    refine VL.store (vc := [str z12_3.path, i64 z12_3.stage, i64 z12_3.mode, str z12_3.data, i64 z12_3.time, i64 z12_3.size]) (cs' := [str z12_3.path, i64 z12_3.stage, i64 z12_3.mode, str z12_3.data, i64 z12_3.time, i64 z12_3.size]) rfl rfl rfl gsz49 rfl rfl (Nat.le_of_ble_eq_true rfl) rfl ?_
    refine VL.to (fun _ _ h => h) ?_
    refine VC.seq ?_
    refine VC.region ?_
    refine VL.q (q_field gfa49_1 rfl) (by decide) ?_
    refine VL.q (q_fe gone3 rfl rfl) (by decide) ?_
    refine VL.q (q_move rfl) (by decide) ?_
    refine VL.q (q_eql rfl rfl) (by decide) ?_
    refine VL.to (fun _ _ h => h) ?_
    refine VC.cond_dec rfl (fun h17 => ?_) (fun h17 => ?_)
    ·
      replace hS := it_t h17 hS
      refine VC.region ?_
      refine VL.q (q_move rfl) (by decide) ?_
      refine VL.q (q_field gfa49_0 rfl) (by decide) ?_
      refine VL.q (q_fe gone9 rfl rfl) (by decide) ?_
      refine VL.q (q_field gfa49_2 rfl) (by decide) ?_
      refine VL.q (q_fe gone3 rfl rfl) (by decide) ?_
      refine VL.q (q_field gfa49_3 rfl) (by decide) ?_
      refine VL.q (q_fe gone9 rfl rfl) (by decide) ?_
      refine VL.q (q_build (vs := [(0, str z12_3.path), (1, i64 z12_3.mode), (2, str z12_3.data)]) (cs := #[str z12_3.path, i64 z12_3.mode, str z12_3.data]) rfl (by kernel_rfl)) (by decide) ?_
      refine VL.lit (α := FilesFile) (xs := [.tmp 25]) (vs := [.agg #[str z12_3.path, i64 z12_3.mode, str z12_3.data]]) [⟨z12_3.path, z12_3.mode, z12_3.data⟩] Tryz.underlying60 glit108 (by decide) rfl rfl rfl rfl (by decide) (fun _ _ _ _ => trivial) (by decide) (fun s26_5 hs26_5 => ?_) (by decide)
      replace hS := lt_to hs26_5 hS
      obtain ⟨b27, hS⟩ := gd_s hS
      refine VL.app (s := out5_1) (r := s26_5) Tryz.underlying60 gapp108 (by decide) rfl Fo.out (ap1 b27) (ap2 b27 (by decide)) (by decide) (fun s27_7 hs27_7 => ?_)
      replace hS := lt_to hs27_7 hS
      refine VL.q (q_assign rfl) (by decide) ?_
      refine VL.to (fun _ _ h => h) ?_
      refine VC.keep [1, 5, 8, 9, 10] rfl ?_
      refine VC.region ?_
      obtain ⟨b28, hS⟩ := gd_s hS
      refine VL.q (q_add rfl rfl b28) (by decide) ?_
      refine VL.q (q_move rfl) (by decide) ?_
      refine VL.rnd (s27_7, (x10_2 + 1)) [1, 5, 8, 9, 10] (fun _ _ h => h) (go2 hS hK1) rfl
    ·
      replace hS := it_f h17 hS
      refine VC.skip_to (fun _ _ h => h) ?_
      refine VC.keep [1, 5, 8, 9, 10] rfl ?_
      refine VC.region ?_
      obtain ⟨b28, hS⟩ := gd_s hS
      refine VL.q (q_add rfl rfl b28) (by decide) ?_
      refine VL.q (q_move rfl) (by decide) ?_
      refine VL.rnd (out5_1, (x10_2 + 1)) [1, 5, 8, 9, 10] (fun _ _ h => h) (go2 hS hK1) rfl
  ·
    replace hS := it_f h11 hS
    replace hS := up2 hS hK1
    refine VC.exit_to (fun _ _ h => h) ?_
    refine VC.seq ?_
    refine VC.region ?_
    refine VL.q (q_move rfl) (by decide) ?_
    refine VL.shut out5_1 108 (fun _ _ _ _ => trivial) ?_
    obtain ⟨y30_9, ey30_9, hS⟩ := bd_s hS
    refine VL.callF (slices_Clip_files_Row_files_File_ct out5_1 ey30_9) rfl (by decide) ?_
    rintro q30_9_0 rfl
    try dsimp only
    refine VL.q (q_assign rfl) (by decide) ?_
    refine VL.to (fun _ _ h => h) ?_
    cases hS
    exact VC.ret (fin1 (.inr rfl) rfl rfl q30_9_0 rfl rfl (by (try dsimp only); exact InM.out) (fun _ _ => trivial))

set_option maxHeartbeats 4000000 in
set_option maxRecDepth 100000 in
theorem index_Same_1_ct (x_0 : IndexEntry) (y_1 : IndexEntry) {r : Bool} (hS : Sh.index_Same_1 x_0 y_1 = some r) :
    Ct Tryz.prog 128 [.agg #[str x_0.path, i64 x_0.stage, i64 x_0.mode, str x_0.data, i64 x_0.time, i64 x_0.size], .agg #[str y_1.path, i64 y_1.stage, i64 y_1.mode, str y_1.data, i64 y_1.time, i64 y_1.size]] Mo.tt (Ow.emp) (X := Unit) (fun _ => .bool r) (fun _ => True) (fun _ => Mo.tt) (fun _ => Ow.emp) := by
  refine Ct.of Tryz.func128 rfl (by kernel_rfl) Tryz.ntmps128 (by simp) fun c => ?_
  unfold Sh.index_Same_1 at hS
  refine VC.seq ?_
  refine VC.region ?_
  refine VL.box (cs := [str x_0.path, i64 x_0.stage, i64 x_0.mode, str x_0.data, i64 x_0.time, i64 x_0.size]) rfl rfl (by decide) fun b2_1 => ?_
  refine VL.box (cs := [str y_1.path, i64 y_1.stage, i64 y_1.mode, str y_1.data, i64 y_1.time, i64 y_1.size]) rfl rfl (by decide) fun b3_2 => ?_
  refine VL.q (q_assign rfl) (by decide) ?_
  refine VL.to (fun _ _ h => h) ?_
  refine VC.seq ?_
  refine VC.region ?_
  refine VL.q (q_field gfa49_0 rfl) (by decide) ?_
  refine VL.q (q_fe gone9 rfl rfl) (by decide) ?_
  refine VL.q (q_field gfa49_0 rfl) (by decide) ?_
  refine VL.q (q_fe gone9 rfl rfl) (by decide) ?_
  refine VL.q (q_seq rfl rfl) (by decide) ?_
  refine VL.q (q_move rfl) (by decide) ?_
  refine VL.split_dec 10 rfl (fun h10 => ?_) (fun h10 => ?_)
  ·
    replace hS := it_t h10 hS
    refine VL.gy rfl rfl (q_field gfa49_1 rfl) (by decide) ?_
    refine VL.gy rfl rfl (q_fe gone3 rfl rfl) (by decide) ?_
    refine VL.gy rfl rfl (q_field gfa49_1 rfl) (by decide) ?_
    refine VL.gy rfl rfl (q_fe gone3 rfl rfl) (by decide) ?_
    refine VL.gy rfl rfl (q_eql rfl rfl) (by decide) ?_
    refine VL.q (q_pick_t rfl rfl) (by decide) ?_
    refine VL.q (q_move rfl) (by decide) ?_
    refine VL.split_dec 17 rfl (fun h17 => ?_) (fun h17 => ?_)
    ·
      replace hS := it_t h17 hS
      refine VL.gy rfl rfl (q_field gfa49_2 rfl) (by decide) ?_
      refine VL.gy rfl rfl (q_fe gone3 rfl rfl) (by decide) ?_
      refine VL.gy rfl rfl (q_field gfa49_2 rfl) (by decide) ?_
      refine VL.gy rfl rfl (q_fe gone3 rfl rfl) (by decide) ?_
      refine VL.gy rfl rfl (q_eql rfl rfl) (by decide) ?_
      refine VL.q (q_pick_t rfl rfl) (by decide) ?_
      refine VL.q (q_move rfl) (by decide) ?_
      refine VL.split_dec 24 rfl (fun h24 => ?_) (fun h24 => ?_)
      ·
        replace hS := it_t h24 hS
        refine VL.gy rfl rfl (q_field gfa49_3 rfl) (by decide) ?_
        refine VL.gy rfl rfl (q_fe gone9 rfl rfl) (by decide) ?_
        refine VL.gy rfl rfl (q_field gfa49_3 rfl) (by decide) ?_
        refine VL.gy rfl rfl (q_fe gone9 rfl rfl) (by decide) ?_
        refine VL.gy rfl rfl (q_seq rfl rfl) (by decide) ?_
        refine VL.q (q_pick_t rfl rfl) (by decide) ?_
        refine VL.q (q_assign rfl) (by decide) ?_
        refine VL.to (fun _ _ h => h) ?_
        refine VC.keep [4] rfl ?_
        cases hS
        exact VC.ret (fin1 (.inr rfl) rfl rfl () rfl trivial (fun _ _ => trivial) (fun _ _ => trivial))
      ·
        replace hS := it_f h24 hS
        refine VL.gn rfl rfl rfl (by decide) ?_
        refine VL.gn rfl rfl rfl (by decide) ?_
        refine VL.gn rfl rfl rfl (by decide) ?_
        refine VL.gn rfl rfl rfl (by decide) ?_
        refine VL.gn rfl rfl rfl (by decide) ?_
        refine VL.q (q_pick_f rfl rfl) (by decide) ?_
        refine VL.q (q_assign rfl) (by decide) ?_
        refine VL.to (fun _ _ h => h) ?_
        refine VC.keep [4] rfl ?_
        cases hS
        exact VC.ret (fin1 (.inr rfl) rfl rfl () rfl trivial (fun _ _ => trivial) (fun _ _ => trivial))
    ·
      replace hS := it_f h17 hS
      refine VL.gn rfl rfl rfl (by decide) ?_
      refine VL.gn rfl rfl rfl (by decide) ?_
      refine VL.gn rfl rfl rfl (by decide) ?_
      refine VL.gn rfl rfl rfl (by decide) ?_
      refine VL.gn rfl rfl rfl (by decide) ?_
      refine VL.q (q_pick_f rfl rfl) (by decide) ?_
      refine VL.q (q_move rfl) (by decide) ?_
      refine VL.gn rfl rfl rfl (by decide) ?_
      refine VL.gn rfl rfl rfl (by decide) ?_
      refine VL.gn rfl rfl rfl (by decide) ?_
      refine VL.gn rfl rfl rfl (by decide) ?_
      refine VL.gn rfl rfl rfl (by decide) ?_
      refine VL.q (q_pick_f rfl rfl) (by decide) ?_
      refine VL.q (q_assign rfl) (by decide) ?_
      refine VL.to (fun _ _ h => h) ?_
      refine VC.keep [4] rfl ?_
      cases hS
      exact VC.ret (fin1 (.inr rfl) rfl rfl () rfl trivial (fun _ _ => trivial) (fun _ _ => trivial))
  ·
    replace hS := it_f h10 hS
    refine VL.gn rfl rfl rfl (by decide) ?_
    refine VL.gn rfl rfl rfl (by decide) ?_
    refine VL.gn rfl rfl rfl (by decide) ?_
    refine VL.gn rfl rfl rfl (by decide) ?_
    refine VL.gn rfl rfl rfl (by decide) ?_
    refine VL.q (q_pick_f rfl rfl) (by decide) ?_
    refine VL.q (q_move rfl) (by decide) ?_
    refine VL.gn rfl rfl rfl (by decide) ?_
    refine VL.gn rfl rfl rfl (by decide) ?_
    refine VL.gn rfl rfl rfl (by decide) ?_
    refine VL.gn rfl rfl rfl (by decide) ?_
    refine VL.gn rfl rfl rfl (by decide) ?_
    refine VL.q (q_pick_f rfl rfl) (by decide) ?_
    refine VL.q (q_move rfl) (by decide) ?_
    refine VL.gn rfl rfl rfl (by decide) ?_
    refine VL.gn rfl rfl rfl (by decide) ?_
    refine VL.gn rfl rfl rfl (by decide) ?_
    refine VL.gn rfl rfl rfl (by decide) ?_
    refine VL.gn rfl rfl rfl (by decide) ?_
    refine VL.q (q_pick_f rfl rfl) (by decide) ?_
    refine VL.q (q_assign rfl) (by decide) ?_
    refine VL.to (fun _ _ h => h) ?_
    refine VC.keep [4] rfl ?_
    cases hS
    exact VC.ret (fin1 (.inr rfl) rfl rfl () rfl trivial (fun _ _ => trivial) (fun _ _ => trivial))

set_option maxHeartbeats 4000000 in
set_option maxRecDepth 100000 in
theorem slices_EqualFunc_index_Entry_index_Entry_index_Entry_index_Entry_ct (s1_0 : Sv IndexEntry) (s2_1 : Sv IndexEntry) {r : Bool} (hS : Sh.slices_EqualFunc_index_Entry_index_Entry_index_Entry_index_Entry s1_0.l s2_1.l = some r) :
    Ct Tryz.prog 127 [s1_0.val, s2_1.val, .func (.func 128) #[] #[]] (s1_0.ok.and s2_1.ok) (Ow.emp) (X := Unit) (fun _ => .bool r) (fun _ => True) (fun _ => Mo.tt) (fun _ => Ow.emp) := by
  refine Ct.of Tryz.func127 rfl (by kernel_rfl) Tryz.ntmps127 (by simp) fun c => ?_
  unfold Sh.slices_EqualFunc_index_Entry_index_Entry_index_Entry_index_Entry at hS
  refine VC.seq ?_
  refine VC.region ?_
  refine VL.q (q_assign rfl) (by decide) ?_
  refine VL.to (fun _ _ h => h) ?_
  refine VC.seq ?_
  refine VC.seq ?_
  refine VC.region ?_
  refine VL.q (q_move rfl) (by decide) ?_
  refine VL.q (q_ln (s := s1_0) Tryz.underlying41 rfl) (by decide) ?_
  refine VL.q (q_move rfl) (by decide) ?_
  refine VL.q (q_ln (s := s2_1) Tryz.underlying41 rfl) (by decide) ?_
  refine VL.q (q_neq rfl rfl) (by decide) ?_
  refine VL.to (fun _ _ h => h) ?_
  refine VC.cond_ndec rfl (fun h14 => ?_) (fun h14 => ?_)
  ·
    replace hS := it_f h14 hS
    refine VC.seq ?_
    refine VC.region ?_
    refine VL.q (q_assign rfl) (by decide) ?_
    refine VL.to (fun _ _ h => h) ?_
    cases hS
    exact VC.ret (fin1 (.inr rfl) rfl rfl () rfl trivial (fun _ _ => trivial) (fun _ _ => trivial))
  ·
    replace hS := it_t h14 hS
    refine VC.skip_to (fun _ _ h => h) ?_
    refine VC.seq ?_
    refine VC.seq ?_
    refine VC.region ?_
    refine VL.q (q_move rfl) (by decide) ?_
    refine VL.q (q_ln (s := s1_0) Tryz.underlying41 rfl) (by decide) ?_
    refine VL.q (q_move rfl) (by decide) ?_
    refine VL.to (fun _ _ h => h) ?_
    refine VC.keep [1, 2, 15, 16, 17] rfl ?_
    refine VC.block ?_
    refine VC.iter (S := Int) (fun (x17_1 : Int) => x17_1) (fun (x17_1 : Int) => [(1, s2_1.val), (2, .func (.func 128) #[] #[]), (15, s1_0.val), (16, i64 (s1_0.l.length : Int)), (17, i64 x17_1)]) (fun (x17_1 : Int) => Mo.tt) (fun (x17_1 : Int) => Ow.emp) 0 [1, 2, 15, 16, 17] hS rfl ?_
    clear hS
    rintro x17_1 m1 y1 hS hK1
    show VC _ _ _ _ _ [(1, s2_1.val), (2, .func (.func 128) #[] #[]), (15, s1_0.val), (16, i64 (s1_0.l.length : Int)), (17, i64 x17_1)] (Mo.and Mo.tt _) (Ow.emp)
    refine VC.seq ?_
    refine VC.region ?_
    refine VL.q (q_lss rfl rfl) (by decide) ?_
    refine VL.to (fun _ _ h => h) ?_
    refine VC.seq ?_
    refine VC.cond_dec rfl (fun h18 => ?_) (fun h18 => ?_)
    ·
      replace hS := it_t h18 hS
      refine VC.skip_to (fun _ _ h => h) ?_
      refine VC.seq ?_
      refine VC.block ?_
      refine VC.seq ?_
      refine VC.region ?_
      refine VL.q (q_move rfl) (by decide) ?_
      obtain ⟨z20_2, nz20_2, hz20_2, hS⟩ := at_s hS
      refine VL.q (q_ixm (s := s1_0) Tryz.underlying41 gsz49 rfl rfl nz20_2 (lt_of_get nz20_2 hz20_2)) (by decide) ?_
      refine VL.q (q_els (s := s1_0) gagg49 rfl rfl hz20_2) (by decide) ?_
      refine VL.alloc (cs := [str [], i64 0, i64 0, str [], i64 0, i64 0]) (by kernel_rfl) (by decide) fun b8_3 => ?_
      refine VL.q (q_assign rfl) (by decide) ?_
      refine VL.store (vc := [str z20_2.path, i64 z20_2.stage, i64 z20_2.mode, str z20_2.data, i64 z20_2.time, i64 z20_2.size]) (cs' := [str z20_2.path, i64 z20_2.stage, i64 z20_2.mode, str z20_2.data, i64 z20_2.time, i64 z20_2.size]) rfl rfl rfl gsz49 rfl rfl (Nat.le_of_ble_eq_true rfl) rfl ?_
      refine VL.to (fun _ _ h => h) ?_
      refine VC.seq ?_
      refine VC.region ?_
      refine VL.q (q_move rfl) (by decide) ?_
      refine VL.q (q_move rfl) (by decide) ?_
      obtain ⟨z24_4, nz24_4, hz24_4, hS⟩ := at_s hS
      refine VL.q (q_ixm (s := s2_1) Tryz.underlying41 gsz49 rfl rfl nz24_4 (lt_of_get nz24_4 hz24_4)) (by decide) ?_
      refine VL.q (q_els (s := s2_1) gagg49 rfl rfl hz24_4) (by decide) ?_
      refine VL.alloc (cs := [str [], i64 0, i64 0, str [], i64 0, i64 0]) (by kernel_rfl) (by decide) fun b9_5 => ?_
      refine VL.store (vc := [str z24_4.path, i64 z24_4.stage, i64 z24_4.mode, str z24_4.data, i64 z24_4.time, i64 z24_4.size]) (cs' := [str z24_4.path, i64 z24_4.stage, i64 z24_4.mode, str z24_4.data, i64 z24_4.time, i64 z24_4.size]) rfl rfl rfl gsz49 rfl rfl (Nat.le_of_ble_eq_true rfl) rfl ?_
      refine VL.to (fun _ _ h => h) ?_
      refine VC.keep [1, 2, 15, 16, 17, 8, 9] rfl ?_
      refine VC.seq ?_
      refine VC.region ?_
      refine VL.q (q_move rfl) (by decide) ?_
      refine VL.q (q_fes gagg49 rfl rfl) (by decide) ?_
      refine VL.q (q_fes gagg49 rfl rfl) (by decide) ?_
      obtain ⟨y29_6, ey29_6, hS⟩ := bd_s hS
      refine VL.q (q_callV (index_Same_1_ct z20_2 z24_4 ey29_6) rfl rfl (fun _ _ => rfl)) (by decide) ?_
      refine VL.q (q_not rfl) (by decide) ?_
      refine VL.to (fun _ _ h => h) ?_
      refine VC.cond rfl (fun h30 => ?_) (fun h30 => ?_)
      ·
        replace hS := it_t h30 hS
        refine VC.seq ?_
        refine VC.region ?_
        refine VL.q (q_assign rfl) (by decide) ?_
        refine VL.to (fun _ _ h => h) ?_
        refine VC.keep [6] rfl ?_
        replace hS := up2 hS hK1
        cases hS
        exact VC.ret (fin1 (.inr rfl) rfl rfl () rfl trivial (fun _ _ => trivial) (fun _ _ => trivial))
      ·
        replace hS := it_b h30 hS
        refine VC.skip_to (fun _ _ h => h) ?_
        refine VC.keep [1, 2, 15, 16, 17] rfl ?_
        refine VC.region ?_
        obtain ⟨b31, hS⟩ := gd_s hS
        refine VL.q (q_add rfl rfl b31) (by decide) ?_
        refine VL.q (q_move rfl) (by decide) ?_
        refine VL.rnd (x17_1 + 1) [1, 2, 15, 16, 17] (fun _ _ h => h) (go2 hS hK1) rfl
    ·
      replace hS := it_f h18 hS
      replace hS := up2 hS hK1
      refine VC.exit_to (fun _ _ h => h) ?_
      refine VC.seq ?_
      refine VC.region ?_
      refine VL.q (q_assign rfl) (by decide) ?_
      refine VL.to (fun _ _ h => h) ?_
      cases hS
      exact VC.ret (fin1 (.inr rfl) rfl rfl () rfl trivial (fun _ _ => trivial) (fun _ _ => trivial))

set_option maxHeartbeats 4000000 in
set_option maxRecDepth 100000 in
theorem index_Same_ct (a_0 : Sv IndexEntry) (b_1 : Sv IndexEntry) {r : Bool} (hS : Sh.index_Same a_0.l b_1.l = some r) :
    Ct Tryz.prog 52 [a_0.val, b_1.val] (a_0.ok.and b_1.ok) (Ow.emp) (X := Unit) (fun _ => .bool r) (fun _ => True) (fun _ => Mo.tt) (fun _ => Ow.emp) := by
  refine Ct.of Tryz.func52 rfl (by kernel_rfl) Tryz.ntmps52 (by simp) fun c => ?_
  unfold Sh.index_Same at hS
  refine VC.seq ?_
  refine VC.region ?_
  refine VL.q (q_assign rfl) (by decide) ?_
  refine VL.to (fun _ _ h => h) ?_
  refine VC.seq ?_
  refine VC.region ?_
  refine VL.q (q_move rfl) (by decide) ?_
  refine VL.q (q_move rfl) (by decide) ?_
  obtain ⟨y7_1, ey7_1, hS⟩ := bd_s hS
  refine VL.q (q_call (slices_EqualFunc_index_Entry_index_Entry_index_Entry_index_Entry_ct a_0 b_1 ey7_1) rfl (fun _ _ => rfl)) (by decide) ?_
  refine VL.q (q_assign rfl) (by decide) ?_
  refine VL.to (fun _ _ h => h) ?_
  cases hS
  exact VC.ret (fin1 (.inr rfl) rfl rfl () rfl trivial (fun _ _ => trivial) (fun _ _ => trivial))

set_option maxHeartbeats 4000000 in
set_option maxRecDepth 100000 in
theorem index_Drop_1_ct (x_0 : IndexEntry) (a_1_b : Nat) (a_1 : Str) {r : Bool} (hS : Sh.index_Drop_1 x_0 a_1 = some r) :
    Ct Tryz.prog 63 [.agg #[str x_0.path, i64 x_0.stage, i64 x_0.mode, str x_0.data, i64 x_0.time, i64 x_0.size], ptr a_1_b 0] (Cells a_1_b 0 [str a_1]) (Ow.emp) (X := Unit) (fun _ => .bool r) (fun _ => True) (fun _ => Mo.tt) (fun _ => Ow.emp) := by
  refine Ct.of Tryz.func63 rfl (by kernel_rfl) Tryz.ntmps63 (by simp) fun c => ?_
  unfold Sh.index_Drop_1 at hS
  refine VC.seq ?_
  refine VC.region ?_
  refine VL.box (cs := [str x_0.path, i64 x_0.stage, i64 x_0.mode, str x_0.data, i64 x_0.time, i64 x_0.size]) rfl rfl (by decide) fun b2_1 => ?_
  refine VL.q (q_assign rfl) (by decide) ?_
  refine VL.to (fun _ _ h => h) ?_
  refine VC.seq ?_
  refine VC.region ?_
  refine VL.q (q_field gfa49_0 rfl) (by decide) ?_
  refine VL.q (q_fe gone9 rfl rfl) (by decide) ?_
  refine VL.q (q_fm gone9 rfl rfl) (by decide) ?_
  refine VL.q (q_seq rfl rfl) (by decide) ?_
  refine VL.q (q_assign rfl) (by decide) ?_
  refine VL.to (fun _ _ h => h) ?_
  cases hS
  exact VC.ret (fin1 (.inr rfl) rfl rfl () rfl trivial (fun _ _ => trivial) (fun _ _ => trivial))

set_option maxHeartbeats 4000000 in
set_option maxRecDepth 100000 in
theorem slices_IndexFunc_index_Entry_index_Entry_v4_ct (s_0 : Sv IndexEntry) (f_1_0_b : Nat) (f_1_0 : Str) {r : Int} (hS : Sh.slices_IndexFunc_index_Entry_index_Entry_v4 s_0.l f_1_0 = some r) :
    Ct Tryz.prog 131 [s_0.val, .func (.func 63) #[] #[ptr f_1_0_b 0]] (s_0.ok.and (Cells f_1_0_b 0 [str f_1_0])) (Ow.emp) (X := Unit) (fun _ => i64 r) (fun _ => True) (fun _ => Mo.tt) (fun _ => Ow.emp) := by
  refine Ct.of Tryz.func131 rfl (by kernel_rfl) Tryz.ntmps131 (by simp) fun c => ?_
  unfold Sh.slices_IndexFunc_index_Entry_index_Entry_v4 at hS
  refine VC.seq ?_
  refine VC.region ?_
  refine VL.q (q_assign rfl) (by decide) ?_
  refine VL.to (fun _ _ h => h) ?_
  refine VC.seq ?_
  refine VC.seq ?_
  refine VC.region ?_
  refine VL.q (q_move rfl) (by decide) ?_
  refine VL.q (q_ln (s := s_0) Tryz.underlying41 rfl) (by decide) ?_
  refine VL.q (q_move rfl) (by decide) ?_
  refine VL.to (fun _ _ h => h) ?_
  refine VC.block ?_
  refine VC.iter (S := Int) (fun (x8_1 : Int) => x8_1) (fun (x8_1 : Int) => [(0, s_0.val), (1, .func (.func 63) #[] #[ptr f_1_0_b 0]), (7, i64 (s_0.l.length : Int)), (8, i64 x8_1)]) (fun (x8_1 : Int) => Mo.tt) (fun (x8_1 : Int) => Ow.emp) 0 [0, 1, 7, 8] hS rfl ?_
  clear hS
  rintro x8_1 m1 y1 hS hK1
  show VC _ _ _ _ _ [(0, s_0.val), (1, .func (.func 63) #[] #[ptr f_1_0_b 0]), (7, i64 (s_0.l.length : Int)), (8, i64 x8_1)] (Mo.and Mo.tt _) (Ow.emp)
  refine VC.seq ?_
  refine VC.region ?_
  refine VL.q (q_lss rfl rfl) (by decide) ?_
  refine VL.to (fun _ _ h => h) ?_
  refine VC.seq ?_
  refine VC.cond_dec rfl (fun h9 => ?_) (fun h9 => ?_)
  ·
    replace hS := it_t h9 hS
    refine VC.skip_to (fun _ _ h => h) ?_
    refine VC.seq ?_
    refine VC.block ?_
    refine VC.seq ?_
    refine VC.region ?_
    refine VL.q (q_move rfl) (by decide) ?_
    refine VL.q (q_assign rfl) (by decide) ?_
    refine VL.to (fun _ _ h => h) ?_
    refine VC.seq ?_
    refine VC.region ?_
    refine VL.q (q_move rfl) (by decide) ?_
    refine VL.q (q_move rfl) (by decide) ?_
    refine VL.q (q_move rfl) (by decide) ?_
    obtain ⟨z14_2, nz14_2, hz14_2, hS⟩ := at_s hS
    refine VL.q (q_ixm (s := s_0) Tryz.underlying41 gsz49 rfl rfl nz14_2 (lt_of_get nz14_2 hz14_2)) (by decide) ?_
    refine VL.q (q_els (s := s_0) gagg49 rfl rfl hz14_2) (by decide) ?_
    obtain ⟨y16_3, ey16_3, hS⟩ := bd_s hS
    refine VL.q (q_callVC (vs := [.agg #[str z14_2.path, i64 z14_2.stage, i64 z14_2.mode, str z14_2.data, i64 z14_2.time, i64 z14_2.size]]) (caps := [ptr f_1_0_b 0]) (index_Drop_1_ct z14_2 f_1_0_b f_1_0 ey16_3) rfl rfl (fun _ _ => rfl)) (by decide) ?_
    refine VL.to (fun _ _ h => h) ?_
    refine VC.keep [0, 1, 7, 8, 5, 16] rfl ?_
    refine VC.cond rfl (fun h16 => ?_) (fun h16 => ?_)
    ·
      replace hS := it_t h16 hS
      refine VC.seq ?_
      refine VC.region ?_
      refine VL.q (q_move rfl) (by decide) ?_
      refine VL.q (q_assign rfl) (by decide) ?_
      refine VL.to (fun _ _ h => h) ?_
      replace hS := up2 hS hK1
      cases hS
      exact VC.ret (fin1 (.inr rfl) rfl rfl () rfl trivial (fun _ _ => trivial) (fun _ _ => trivial))
    ·
      replace hS := it_b h16 hS
      refine VC.skip_to (fun _ _ h => h) ?_
      refine VC.region ?_
      obtain ⟨b18, hS⟩ := gd_s hS
      refine VL.q (q_add rfl rfl b18) (by decide) ?_
      refine VL.q (q_move rfl) (by decide) ?_
      refine VL.rnd (x8_1 + 1) [0, 1, 7, 8] (fun _ _ h => h) (go2 hS hK1) rfl
  ·
    replace hS := it_f h9 hS
    replace hS := up2 hS hK1
    refine VC.exit_to (fun _ _ h => h) ?_
    refine VC.seq ?_
    refine VC.region ?_
    refine VL.q (q_assign rfl) (by decide) ?_
    refine VL.to (fun _ _ h => h) ?_
    cases hS
    exact VC.ret (fin1 (.inr rfl) rfl rfl () rfl trivial (fun _ _ => trivial) (fun _ _ => trivial))

set_option maxHeartbeats 4000000 in
set_option maxRecDepth 100000 in
theorem slices_DeleteFunc_index_Entry_index_Entry_v2_ct (s_0 : Sv IndexEntry) (del_1_0_b : Nat) (del_1_0 : Str) {r : List IndexEntry} (hS : Sh.slices_DeleteFunc_index_Entry_index_Entry_v2 s_0.l del_1_0 = some r) :
    Ct Tryz.prog 54 [s_0.val, .func (.func 63) #[] #[ptr del_1_0_b 0]] Mo.tt (Ow.star (Sv.own s_0 49) (Blk del_1_0_b [str del_1_0] 9)) (X := Sv IndexEntry) (fun x => x.val) (fun x => r = x.l) (fun x => Mo.tt) (fun x => Ow.star (Sv.own x 49) (Blk del_1_0_b [str del_1_0] 9)) := by
  refine Ct.of Tryz.func54 rfl (by kernel_rfl) Tryz.ntmps54 (by simp) fun c => ?_
  unfold Sh.slices_DeleteFunc_index_Entry_index_Entry_v2 at hS
  refine VC.seq ?_
  refine VC.region ?_
  refine VL.q (q_assign rfl) (by decide) ?_
  refine VL.to (fun _ _ h => h) ?_
  refine VC.seq ?_
  refine VC.region ?_
  refine VL.q (q_move rfl) (by decide) ?_
  refine VL.q (q_move rfl) (by decide) ?_
  obtain ⟨y10_1, ey10_1, hS⟩ := bd_s hS
  refine VL.q (q_callR (slices_IndexFunc_index_Entry_index_Entry_v4_ct s_0 del_1_0_b del_1_0 ey10_1) rfl (fun _ _ => rfl)) (by decide) ?_
  refine VL.q (q_assign rfl) (by decide) ?_
  refine VL.to (fun _ _ h => h) ?_
  refine VC.seq ?_
  refine VC.seq ?_
  refine VC.region ?_
  refine VL.q (q_move rfl) (by decide) ?_
  refine VL.q (q_eql rfl rfl) (by decide) ?_
  refine VL.to (fun _ _ h => h) ?_
  refine VC.cond_dec rfl (fun h12 => ?_) (fun h12 => ?_)
  ·
    replace hS := it_t h12 hS
    refine VC.seq ?_
    refine VC.region ?_
    refine VL.q (q_move rfl) (by decide) ?_
    refine VL.q (q_assign rfl) (by decide) ?_
    refine VL.to (fun _ _ h => h) ?_
    cases hS
    exact VC.ret (fin1 (.inr rfl) rfl rfl s_0 rfl rfl (by (try dsimp only); exact InM.out) (by (try dsimp only); exact EntO.out))
  ·
    replace hS := it_f h12 hS
    refine VC.skip_to (fun _ _ h => h) ?_
    refine VC.seq ?_
    refine VC.seq ?_
    refine VC.region ?_
    refine VL.q (q_move rfl) (by decide) ?_
    obtain ⟨b15, hS⟩ := gd_s hS
    refine VL.q (q_add rfl rfl b15) (by decide) ?_
    refine VL.q (q_assign rfl) (by decide) ?_
    refine VL.to (fun _ _ h => h) ?_
    refine VC.keep [0, 1, 5, 6] rfl ?_
    refine VC.block ?_
    refine VC.iter (S := Sv IndexEntry × Int × Int) (fun sg => (sg.1.l, sg.2.1, sg.2.2)) (fun sg => [(0, sg.1.val), (1, .func (.func 63) #[] #[ptr del_1_0_b 0]), (5, i64 sg.2.1), (6, i64 sg.2.2)]) (fun sg => Mo.tt) (fun sg => Ow.star (Blk del_1_0_b [str del_1_0] 9) (Ow.star (Sv.own sg.1 49) (Ow.emp))) (s_0, y10_1, (y10_1 + 1)) [0, 1, 5, 6] hS rfl ?_
    clear hS
    rintro ⟨s0_2, i5_3, j6_4⟩ m1 y1 hS hK1
    show VC _ _ _ _ _ [(0, s0_2.val), (1, .func (.func 63) #[] #[ptr del_1_0_b 0]), (5, i64 i5_3), (6, i64 j6_4)] (Mo.and Mo.tt _) (Ow.star (Blk del_1_0_b [str del_1_0] 9) (Ow.star (Sv.own s0_2 49) (Ow.emp)))
    refine VC.seq ?_
    refine VC.seq ?_
    refine VC.region ?_
    refine VL.q (q_move rfl) (by decide) ?_
    refine VL.q (q_move rfl) (by decide) ?_
    refine VL.q (q_ln (s := s0_2) Tryz.underlying41 rfl) (by decide) ?_
    refine VL.q (q_lss rfl rfl) (by decide) ?_
    refine VL.to (fun _ _ h => h) ?_
    refine VC.cond_dec rfl (fun h19 => ?_) (fun h19 => ?_)
    ·
      replace hS := it_t h19 hS
      refine VC.skip_to (fun _ _ h => h) ?_
      refine VC.cutJ (S := Sv IndexEntry × Int) (fun sg => (sg.1.l, sg.2)) (fun sg => [(0, sg.1.val), (1, .func (.func 63) #[] #[ptr del_1_0_b 0]), (5, i64 sg.2), (6, i64 j6_4)]) (fun sg => Mo.tt) (fun sg => Ow.star (Blk del_1_0_b [str del_1_0] 9) (Ow.star (Sv.own sg.1 49) (Ow.emp))) hS ?_ ?_
      · -- up to where ways meet
        clear hS
        intro k7 hS
        refine VC.block ?_
        refine VC.seq ?_
        refine VC.region ?_
        refine VL.q (q_move rfl) (by decide) ?_
        refine VL.q (q_move rfl) (by decide) ?_
        obtain ⟨z24_8, nz24_8, hz24_8, hS⟩ := at_s hS
        refine VL.q (q_ixo (s := s0_2) Tryz.underlying41 gsz49 rfl rfl nz24_8 (lt_of_get nz24_8 hz24_8)) (by decide) ?_
        refine VL.q (q_elso (s := s0_2) gagg49 rfl rfl hz24_8) (by decide) ?_
        refine VL.alloc (cs := [str [], i64 0, i64 0, str [], i64 0, i64 0]) (by kernel_rfl) (by decide) fun b7_9 => ?_
        refine VL.store (vc := [str z24_8.path, i64 z24_8.stage, i64 z24_8.mode, str z24_8.data, i64 z24_8.time, i64 z24_8.size]) (cs' := [str z24_8.path, i64 z24_8.stage, i64 z24_8.mode, str z24_8.data, i64 z24_8.time, i64 z24_8.size]) rfl rfl rfl gsz49 rfl rfl (Nat.le_of_ble_eq_true rfl) rfl ?_
        refine VL.to (fun _ _ h => h) ?_
        refine VC.keep [0, 1, 5, 6, 7] rfl ?_
        refine VC.seq ?_
        refine VC.region ?_
        refine VL.q (q_move rfl) (by decide) ?_
        refine VL.q (q_fes gagg49 rfl rfl) (by decide) ?_
        obtain ⟨y28_10, ey28_10, hS⟩ := bd_s hS
        refine VL.q (q_callVC (vs := [.agg #[str z24_8.path, i64 z24_8.stage, i64 z24_8.mode, str z24_8.data, i64 z24_8.time, i64 z24_8.size]]) (caps := [ptr del_1_0_b 0]) (index_Drop_1_ct z24_8 del_1_0_b del_1_0 ey28_10) rfl rfl (fun _ _ => rfl)) (by decide) ?_
        refine VL.q (q_not rfl) (by decide) ?_
        refine VL.to (fun _ _ h => h) ?_
        refine VC.cond rfl (fun h29 => ?_) (fun h29 => ?_)
        ·
          replace hS := it_t h29 hS
          refine VC.seq ?_
          refine VC.region ?_
          refine VL.q (q_move rfl) (by decide) ?_
          refine VL.q (q_move rfl) (by decide) ?_
          refine VL.q (q_fes gagg49 rfl rfl) (by decide) ?_
          obtain ⟨z33_11, nz33_11, hz33_11, hS⟩ := at_s hS
          refine VL.q (q_ixo (s := s0_2) Tryz.underlying41 gsz49 rfl rfl nz33_11 (lt_of_get nz33_11 hz33_11)) (by decide) ?_
          refine VL.storeE (s := s0_2) (T := 49) (j := 0) (vc := [str z24_8.path, i64 z24_8.stage, i64 z24_8.mode, str z24_8.data, i64 z24_8.time, i64 z24_8.size]) (⟨z24_8.path, z24_8.stage, z24_8.mode, z24_8.data, z24_8.time, z24_8.size⟩ : IndexEntry) (by decide) rfl rfl hz33_11 rfl gsz49 rfl rfl (Nat.le_of_ble_eq_true rfl) rfl (fun w12 hw12 haw12 hcw12 hvw12 hbw12 how12 => ?_)
          rw [← hvw12]
          replace hS := lt_to hw12 hS
          refine VL.to (fun _ _ h => h) ?_
          refine VC.keep [0, 1, 5, 6] rfl ?_
          refine VC.region ?_
          refine VL.q (q_move rfl) (by decide) ?_
          obtain ⟨b35, hS⟩ := gd_s hS
          refine VL.q (q_add rfl rfl b35) (by decide) ?_
          refine VL.q (q_assign rfl) (by decide) ?_
          refine VL.mt (w12, (i5_3 + 1)) [0, 1, 5, 6] (fun _ _ h => h) hS rfl
        ·
          replace hS := it_b h29 hS
          refine VC.skip_mt (s0_2, i5_3) [0, 1, 5, 6] (fun _ _ h => h) hS rfl
      · -- from there
        clear hS
        rintro ⟨s0_5, i5_6⟩ hS
        show VC _ _ _ _ _ [(0, s0_5.val), (1, .func (.func 63) #[] #[ptr del_1_0_b 0]), (5, i64 i5_6), (6, i64 j6_4)] (Mo.and Mo.tt _) (Ow.star (Blk del_1_0_b [str del_1_0] 9) (Ow.star (Sv.own s0_5 49) (Ow.emp)))
        refine VC.region ?_
        refine VL.q (q_move rfl) (by decide) ?_
        obtain ⟨b21, hS⟩ := gd_s hS
        refine VL.q (q_add rfl rfl b21) (by decide) ?_
        refine VL.q (q_assign rfl) (by decide) ?_
        refine VL.rnd (s0_5, i5_6, (j6_4 + 1)) [0, 1, 5, 6] (fun _ _ h => h) (go2 hS hK1) rfl
    ·
      replace hS := it_f h19 hS
      replace hS := up2 hS hK1
      refine VC.exit_to (fun _ _ h => h) ?_
      refine VC.seq ?_
      refine VC.region ?_
      refine VL.q (q_move rfl) (by decide) ?_
      refine VL.q (q_move rfl) (by decide) ?_
      obtain ⟨b38, hS⟩ := gd_s hS
      refine VL.fits (s := s0_2) (e := 49) Fo.out fun f38_14 => ?_
      refine VL.q (q_subv (s := s0_2) Tryz.underlying41 gsz49 rfl rfl b38.1 b38.2 f38_14) (by decide) ?_
      refine VL.clrN (s := s0_2) (i := i5_3.toNat) (.agg #[str [], i64 0, i64 0, str [], i64 0, i64 0]) Tryz.underlying41 gzv49 rfl rfl rfl (by have := b38; dsimp only at this ⊢; omega) Fo.out fun ss3_15 hss3_15 vss3_15 => ?_
      replace hS := lt_to hss3_15 hS
      refine VL.to (fun _ _ h => h) ?_
      refine VC.keep [0, 5] rfl ?_
      refine VC.seq ?_
      refine VC.region ?_
      refine VL.q (q_move rfl) (by decide) ?_
      refine VL.q (q_move rfl) (by decide) ?_
      refine VL.q (q_cutO (s := s0_2) (q := ss3_15) Tryz.underlying41 gsz49 rfl rfl b38.1 b38.2 f38_14 vss3_15) (by decide) ?_
      refine VL.q (q_assign rfl) (by decide) ?_
      refine VL.to (fun _ _ h => h) ?_
      cases hS
      exact VC.ret (fin1 (.inr rfl) rfl rfl ss3_15 rfl rfl (by (try dsimp only); exact InM.out) (by (try dsimp only); exact EntO.out))

set_option maxHeartbeats 4000000 in
set_option maxRecDepth 100000 in
theorem index_Drop_ct (l_0 : Sv IndexEntry) (p_1 : Str) {r : List IndexEntry} (hS : Sh.index_Drop l_0.l p_1 = some r) :
    Ct Tryz.prog 18 [l_0.val, str p_1] l_0.ok (Ow.emp) (X := Sv IndexEntry) (fun x => x.val) (fun x => r = x.l) (fun x => x.ok) (fun x => Ow.emp) := by
  refine Ct.of Tryz.func18 rfl (by kernel_rfl) Tryz.ntmps18 (by simp) fun c => ?_
  unfold Sh.index_Drop at hS
  refine VC.seq ?_
  refine VC.region ?_
  refine VL.box (cs := [str p_1]) rfl rfl (by decide) fun b3_1 => ?_
  refine VL.q (q_assign rfl) (by decide) ?_
  refine VL.to (fun _ _ h => h) ?_
  refine VC.seq ?_
  refine VC.region ?_
  refine VL.q (q_move rfl) (by decide) ?_
  obtain ⟨y6_2, ey6_2, hS⟩ := bd_s hS
  refine VL.callO (slices_Clone_index_Entry_index_Entry_ct l_0 ey6_2) rfl (by decide) ?_
  rintro q6_2_0 rfl
  try dsimp only
  refine VL.q (q_mkfn rfl) (by decide) ?_
  obtain ⟨y8_3, ey8_3, hS⟩ := bd_s hS
  refine VL.callO (slices_DeleteFunc_index_Entry_index_Entry_v2_ct q6_2_0 b3_1 p_1 ey8_3) rfl (by decide) ?_
  rintro q8_3_0 rfl
  try dsimp only
  refine VL.shut q8_3_0 49 (fun _ _ _ _ => trivial) ?_
  obtain ⟨y9_4, ey9_4, hS⟩ := bd_s hS
  refine VL.callF (slices_Clip_index_Entry_index_Entry_ct q8_3_0 ey9_4) rfl (by decide) ?_
  rintro q9_4_0 rfl
  try dsimp only
  refine VL.q (q_assign rfl) (by decide) ?_
  refine VL.to (fun _ _ h => h) ?_
  cases hS
  exact VC.ret (fin1 (.inr rfl) rfl rfl q9_4_0 rfl rfl (by (try dsimp only); exact InM.out) (fun _ _ => trivial))

set_option maxHeartbeats 4000000 in
set_option maxRecDepth 100000 in
theorem rectolaw15_known_ct  {r : Bool} (hS : Sh.rectolaw15_known = some r) :
    Ct Tryz.prog 12 [] Mo.tt (Ow.emp) (X := Unit) (fun _ => .bool r) (fun _ => True) (fun _ => Mo.tt) (fun _ => Ow.emp) := by
  refine Ct.of Tryz.func12 rfl (by kernel_rfl) Tryz.ntmps12 (by simp) fun c => ?_
  unfold Sh.rectolaw15_known at hS
  refine VC.seq ?_
  refine VC.region ?_
  refine VL.q (q_assign rfl) (by decide) ?_
  refine VL.to (fun _ _ h => h) ?_
  refine VC.seq ?_
  refine VC.region ?_
  refine VL.q (q_build (vs := [(0, str [97]), (1, i64 1), (2, str [120])]) (cs := #[str [97], i64 1, str [120]]) rfl (by kernel_rfl)) (by decide) ?_
  refine VL.lit (α := FilesFile) (xs := [.tmp 9]) (vs := [.agg #[str [97], i64 1, str [120]]]) [⟨[97], 1, [120]⟩] Tryz.underlying60 glit108 (by decide) rfl rfl rfl rfl (by decide) (fun _ _ _ _ => trivial) (by decide) (fun s10_1 hs10_1 => ?_) (by decide)
  replace hS := lt_to hs10_1 hS
  obtain ⟨y11_3, ey11_3, hS⟩ := bd_s hS
  refine VL.callF (index_Of_ct s10_1 ey11_3) rfl (by decide) ?_
  rintro q11_3_0 rfl
  try dsimp only
  refine VL.q (q_assign rfl) (by decide) ?_
  refine VL.to (fun _ _ h => h) ?_
  refine VC.seq ?_
  refine VC.region ?_
  refine VL.q (q_move rfl) (by decide) ?_
  refine VL.q (q_build (vs := [(0, str [97]), (1, i64 2), (2, i64 1), (3, str [121])]) (cs := #[str [97], i64 2, i64 1, str [121], i64 0, i64 0]) rfl (by kernel_rfl)) (by decide) ?_
  obtain ⟨y14_4, ey14_4, hS⟩ := bd_s hS
  refine VL.callF (index_Put_ct q11_3_0 (⟨[97], 2, 1, [121], 0, 0⟩ : IndexEntry) ey14_4) rfl (by decide) ?_
  rintro q14_4_0 rfl
  try dsimp only
  refine VL.q (q_assign rfl) (by decide) ?_
  refine VL.to (fun _ _ h => h) ?_
  refine VC.seq ?_
  refine VC.region ?_
  refine VL.q (q_move rfl) (by decide) ?_
  refine VL.q (q_build (vs := [(0, str [97]), (1, i64 1), (2, i64 1), (3, str [122])]) (cs := #[str [97], i64 1, i64 1, str [122], i64 0, i64 0]) rfl (by kernel_rfl)) (by decide) ?_
  obtain ⟨y17_5, ey17_5, hS⟩ := bd_s hS
  refine VL.callF (index_Put_ct q14_4_0 (⟨[97], 1, 1, [122], 0, 0⟩ : IndexEntry) ey17_5) rfl (by decide) ?_
  rintro q17_5_0 rfl
  try dsimp only
  refine VL.q (q_assign rfl) (by decide) ?_
  refine VL.to (fun _ _ h => h) ?_
  refine VC.keep [1, 2, 3] rfl ?_
  refine VC.seq ?_
  refine VC.region ?_
  refine VL.q (q_move rfl) (by decide) ?_
  obtain ⟨y19_6, ey19_6, hS⟩ := bd_s hS
  refine VL.callF (index_Conflicts_ct q17_5_0 ey19_6) rfl (by decide) ?_
  rintro q19_6_0 rfl
  try dsimp only
  refine VL.q (q_assign rfl) (by decide) ?_
  refine VL.to (fun _ _ h => h) ?_
  refine VC.seq ?_
  refine VC.region ?_
  refine VL.q (q_move rfl) (by decide) ?_
  obtain ⟨y22_7, ey22_7, hS⟩ := bd_s hS
  refine VL.callO (index_Encode_ct q17_5_0 ey22_7) rfl (by decide) ?_
  rintro ⟨q22_7_0, q22_7_1⟩ rfl
  try dsimp only
  refine VL.q (q_move rfl) (by decide) ?_
  refine VL.q (q_extract rfl rfl) (by decide) ?_
  refine VL.q (q_extract rfl rfl) (by decide) ?_
  refine VL.q (q_assign rfl) (by decide) ?_
  refine VL.q (q_assign rfl) (by decide) ?_
  refine VL.to (fun _ _ h => h) ?_
  refine VC.keep [1, 2, 3, 4, 5, 6] rfl ?_
  refine VC.seq ?_
  refine VC.region ?_
  refine VL.q (q_move rfl) (by decide) ?_
  refine VL.shut q22_7_0 5 (fun _ _ _ _ => trivial) ?_
  obtain ⟨y27_8, ey27_8, hS⟩ := bd_s hS
  refine VL.callF (index_Decode_ct q22_7_0 ey27_8) rfl (by decide) ?_
  rintro ⟨q27_8_0, q27_8_1⟩ rfl
  try dsimp only
  refine VL.q (q_move rfl) (by decide) ?_
  refine VL.q (q_extract rfl rfl) (by decide) ?_
  refine VL.q (q_extract rfl rfl) (by decide) ?_
  refine VL.q (q_assign rfl) (by decide) ?_
  refine VL.q (q_assign rfl) (by decide) ?_
  refine VL.to (fun _ _ h => h) ?_
  refine VC.seq ?_
  refine VC.region ?_
  refine VL.q (q_move rfl) (by decide) ?_
  refine VL.q (q_ln (s := q11_3_0) Tryz.underlying41 rfl) (by decide) ?_
  refine VL.q (q_eql rfl rfl) (by decide) ?_
  refine VL.q (q_move rfl) (by decide) ?_
  refine VL.split_dec 33 rfl (fun h33 => ?_) (fun h33 => ?_)
  ·
    replace hS := it_t h33 hS
    refine VL.gy rfl rfl (q_move rfl) (by decide) ?_
    refine VL.gy rfl rfl (q_ln (s := q14_4_0) Tryz.underlying41 rfl) (by decide) ?_
    refine VL.gy rfl rfl (q_eql rfl rfl) (by decide) ?_
    refine VL.q (q_pick_t rfl rfl) (by decide) ?_
    refine VL.q (q_move rfl) (by decide) ?_
    refine VL.split_dec 38 rfl (fun h38 => ?_) (fun h38 => ?_)
    ·
      replace hS := it_t h38 hS
      refine VL.gy rfl rfl (q_move rfl) (by decide) ?_
      refine VL.gy rfl rfl (q_ln (s := q17_5_0) Tryz.underlying41 rfl) (by decide) ?_
      refine VL.gy rfl rfl (q_eql rfl rfl) (by decide) ?_
      refine VL.q (q_pick_t rfl rfl) (by decide) ?_
      refine VL.q (q_move rfl) (by decide) ?_
      refine VL.split_dec 43 rfl (fun h43 => ?_) (fun h43 => ?_)
      ·
        replace hS := it_t h43 hS
        refine VL.gy rfl rfl (q_move rfl) (by decide) ?_
        obtain ⟨z45_9, nz45_9, hz45_9, hS⟩ := at_s hS
        refine VL.gy rfl rfl (q_ixm (s := q17_5_0) Tryz.underlying41 gsz49 rfl rfl nz45_9 (lt_of_get nz45_9 hz45_9)) (by decide) ?_
        refine VL.gy rfl rfl (q_field gfa49_1 rfl) (by decide) ?_
        refine VL.gy rfl rfl (q_elf (s := q17_5_0) gone3 rfl hz45_9 rfl) (by decide) ?_
        refine VL.gy rfl rfl (q_eql rfl rfl) (by decide) ?_
        refine VL.q (q_pick_t rfl rfl) (by decide) ?_
        refine VL.q (q_move rfl) (by decide) ?_
        refine VL.split_dec 50 rfl (fun h50 => ?_) (fun h50 => ?_)
        ·
          replace hS := it_t h50 hS
          refine VL.gy rfl rfl (q_move rfl) (by decide) ?_
          refine VL.gy rfl rfl (q_ln (s := q19_6_0) Tryz.underlying42 rfl) (by decide) ?_
          refine VL.gy rfl rfl (q_eql rfl rfl) (by decide) ?_
          refine VL.q (q_pick_t rfl rfl) (by decide) ?_
          refine VL.q (q_move rfl) (by decide) ?_
          refine VL.split_dec 55 rfl (fun h55 => ?_) (fun h55 => ?_)
          ·
            replace hS := it_t h55 hS
            refine VL.gy rfl rfl (q_move rfl) (by decide) ?_
            refine VL.guard rfl rfl ?_
            obtain ⟨y57_10, ey57_10, hS⟩ := bd_s hS
            refine VL.callF (index_Stage_ct q17_5_0 2 ey57_10) rfl (by decide) ?_
            rintro q57_10_0 rfl
            try dsimp only
            refine VL.gy rfl rfl (q_ln (s := q57_10_0) Tryz.underlying60 rfl) (by decide) ?_
            refine VL.gy rfl rfl (q_eql rfl rfl) (by decide) ?_
            refine VL.q (q_pick_t rfl rfl) (by decide) ?_
            refine VL.q (q_move rfl) (by decide) ?_
            refine VL.split_dec 61 rfl (fun h61 => ?_) (fun h61 => ?_)
            ·
              replace hS := it_t h61 hS
              refine VL.gy rfl rfl (q_move rfl) (by decide) ?_
              refine VL.gy rfl rfl (q_ereq Tryz.underlying38 rfl) (by decide) ?_
              refine VL.q (q_pick_t rfl rfl) (by decide) ?_
              refine VL.q (q_move rfl) (by decide) ?_
              refine VL.split_dec 65 rfl (fun h65 => ?_) (fun h65 => ?_)
              ·
                replace hS := it_t h65 hS
                refine VL.gy rfl rfl (q_move rfl) (by decide) ?_
                refine VL.gy rfl rfl (q_ereq Tryz.underlying38 rfl) (by decide) ?_
                refine VL.q (q_pick_t rfl rfl) (by decide) ?_
                refine VL.q (q_move rfl) (by decide) ?_
                refine VL.split_dec 69 rfl (fun h69 => ?_) (fun h69 => ?_)
                ·
                  replace hS := it_t h69 hS
                  refine VL.gy rfl rfl (q_move rfl) (by decide) ?_
                  refine VL.gy rfl rfl (q_move rfl) (by decide) ?_
                  obtain ⟨y72_11, ey72_11, hS⟩ := bd_s hS
                  refine VL.gy rfl rfl (q_call (index_Same_ct q27_8_0 q17_5_0 ey72_11) rfl (fun _ _ => rfl)) (by decide) ?_
                  refine VL.q (q_pick_t rfl rfl) (by decide) ?_
                  refine VL.q (q_move rfl) (by decide) ?_
                  refine VL.split 74 rfl (fun h74 => ?_) (fun h74 => ?_)
                  ·
                    replace hS := it_t h74 hS
                    refine VL.gy rfl rfl (q_move rfl) (by decide) ?_
                    refine VL.guard rfl rfl ?_
                    obtain ⟨y76_12, ey76_12, hS⟩ := bd_s hS
                    refine VL.callF (index_Drop_ct q17_5_0 [97] ey76_12) rfl (by decide) ?_
                    rintro q76_12_0 rfl
                    try dsimp only
                    refine VL.gy rfl rfl (q_ln (s := q76_12_0) Tryz.underlying41 rfl) (by decide) ?_
                    refine VL.gy rfl rfl (q_eql rfl rfl) (by decide) ?_
                    refine VL.q (q_pick_t rfl rfl) (by decide) ?_
                    refine VL.q (q_move rfl) (by decide) ?_
                    refine VL.split_dec 80 rfl (fun h80 => ?_) (fun h80 => ?_)
                    ·
                      replace hS := it_t h80 hS
                      refine VL.gy rfl rfl (q_move rfl) (by decide) ?_
                      refine VL.guard rfl rfl ?_
                      obtain ⟨y82_13, ey82_13, hS⟩ := bd_s hS
                      refine VL.callF (index_Check_ct q17_5_0 ey82_13) rfl (by decide) ?_
                      rintro q82_13_0 rfl
                      try dsimp only
                      refine VL.gy rfl rfl (q_ereq Tryz.underlying38 rfl) (by decide) ?_
                      refine VL.q (q_pick_t rfl rfl) (by decide) ?_
                      refine VL.q (q_move rfl) (by decide) ?_
                      refine VL.split_dec 85 rfl (fun h85 => ?_) (fun h85 => ?_)
                      ·
                        replace hS := it_t h85 hS
                        refine VL.gy rfl rfl (q_move rfl) (by decide) ?_
                        refine VL.gy rfl rfl (q_move rfl) (by decide) ?_
                        obtain ⟨z88_14, nz88_14, hz88_14, hS⟩ := at_s hS
                        refine VL.gy rfl rfl (q_ixm (s := q11_3_0) Tryz.underlying41 gsz49 rfl rfl nz88_14 (lt_of_get nz88_14 hz88_14)) (by decide) ?_
                        refine VL.gy rfl rfl (q_els (s := q11_3_0) gagg49 rfl rfl hz88_14) (by decide) ?_
                        refine VL.guard rfl rfl ?_
                        obtain ⟨y90_15, ey90_15, hS⟩ := bd_s hS
                        refine VL.callF (index_Put_ct q17_5_0 z88_14 ey90_15) rfl (by decide) ?_
                        rintro q90_15_0 rfl
                        try dsimp only
                        refine VL.gy rfl rfl (q_ln (s := q90_15_0) Tryz.underlying41 rfl) (by decide) ?_
                        refine VL.gy rfl rfl (q_eql rfl rfl) (by decide) ?_
                        refine VL.q (q_pick_t rfl rfl) (by decide) ?_
                        refine VL.q (q_assign rfl) (by decide) ?_
                        refine VL.to (fun _ _ h => h) ?_
                        refine VC.keep [0] rfl ?_
                        cases hS
                        exact VC.ret (fin1 (.inr rfl) rfl rfl () rfl trivial (fun _ _ => trivial) (fun _ _ => trivial))
                      ·
                        replace hS := it_f h85 hS
                        refine VL.gn rfl rfl rfl (by decide) ?_
                        refine VL.gn rfl rfl rfl (by decide) ?_
                        refine VL.gn rfl rfl rfl (by decide) ?_
                        refine VL.gn rfl rfl rfl (by decide) ?_
                        refine VL.gn rfl rfl rfl (by decide) ?_
                        refine VL.gn rfl rfl rfl (by decide) ?_
                        refine VL.gn rfl rfl rfl (by decide) ?_
                        refine VL.q (q_pick_f rfl rfl) (by decide) ?_
                        refine VL.q (q_assign rfl) (by decide) ?_
                        refine VL.to (fun _ _ h => h) ?_
                        refine VC.keep [0] rfl ?_
                        cases hS
                        exact VC.ret (fin1 (.inr rfl) rfl rfl () rfl trivial (fun _ _ => trivial) (fun _ _ => trivial))
                    ·
                      replace hS := it_f h80 hS
                      refine VL.gn rfl rfl rfl (by decide) ?_
                      refine VL.gn rfl rfl rfl (by decide) ?_
                      refine VL.gn rfl rfl rfl (by decide) ?_
                      refine VL.q (q_pick_f rfl rfl) (by decide) ?_
                      refine VL.q (q_move rfl) (by decide) ?_
                      refine VL.gn rfl rfl rfl (by decide) ?_
                      refine VL.gn rfl rfl rfl (by decide) ?_
                      refine VL.gn rfl rfl rfl (by decide) ?_
                      refine VL.gn rfl rfl rfl (by decide) ?_
                      refine VL.gn rfl rfl rfl (by decide) ?_
                      refine VL.gn rfl rfl rfl (by decide) ?_
                      refine VL.gn rfl rfl rfl (by decide) ?_
                      refine VL.q (q_pick_f rfl rfl) (by decide) ?_
                      refine VL.q (q_assign rfl) (by decide) ?_
                      refine VL.to (fun _ _ h => h) ?_
                      refine VC.keep [0] rfl ?_
                      cases hS
                      exact VC.ret (fin1 (.inr rfl) rfl rfl () rfl trivial (fun _ _ => trivial) (fun _ _ => trivial))
                  ·
                    replace hS := it_b h74 hS
                    refine VL.gn rfl rfl rfl (by decide) ?_
                    refine VL.gn rfl rfl rfl (by decide) ?_
                    refine VL.gn rfl rfl rfl (by decide) ?_
                    refine VL.gn rfl rfl rfl (by decide) ?_
                    refine VL.q (q_pick_f rfl rfl) (by decide) ?_
                    refine VL.q (q_move rfl) (by decide) ?_
                    refine VL.gn rfl rfl rfl (by decide) ?_
                    refine VL.gn rfl rfl rfl (by decide) ?_
                    refine VL.gn rfl rfl rfl (by decide) ?_
                    refine VL.q (q_pick_f rfl rfl) (by decide) ?_
                    refine VL.q (q_move rfl) (by decide) ?_
                    refine VL.gn rfl rfl rfl (by decide) ?_
                    refine VL.gn rfl rfl rfl (by decide) ?_
                    refine VL.gn rfl rfl rfl (by decide) ?_
                    refine VL.gn rfl rfl rfl (by decide) ?_
                    refine VL.gn rfl rfl rfl (by decide) ?_
                    refine VL.gn rfl rfl rfl (by decide) ?_
                    refine VL.gn rfl rfl rfl (by decide) ?_
                    refine VL.q (q_pick_f rfl rfl) (by decide) ?_
                    refine VL.q (q_assign rfl) (by decide) ?_
                    refine VL.to (fun _ _ h => h) ?_
                    refine VC.keep [0] rfl ?_
                    cases hS
                    exact VC.ret (fin1 (.inr rfl) rfl rfl () rfl trivial (fun _ _ => trivial) (fun _ _ => trivial))
                ·
                  replace hS := it_f h69 hS
                  refine VL.gn rfl rfl rfl (by decide) ?_
                  refine VL.gn rfl rfl rfl (by decide) ?_
                  refine VL.gn rfl rfl rfl (by decide) ?_
                  refine VL.q (q_pick_f rfl rfl) (by decide) ?_
                  refine VL.q (q_move rfl) (by decide) ?_
                  refine VL.gn rfl rfl rfl (by decide) ?_
                  refine VL.gn rfl rfl rfl (by decide) ?_
                  refine VL.gn rfl rfl rfl (by decide) ?_
                  refine VL.gn rfl rfl rfl (by decide) ?_
                  refine VL.q (q_pick_f rfl rfl) (by decide) ?_
                  refine VL.q (q_move rfl) (by decide) ?_
                  refine VL.gn rfl rfl rfl (by decide) ?_
                  refine VL.gn rfl rfl rfl (by decide) ?_
                  refine VL.gn rfl rfl rfl (by decide) ?_
                  refine VL.q (q_pick_f rfl rfl) (by decide) ?_
                  refine VL.q (q_move rfl) (by decide) ?_
                  refine VL.gn rfl rfl rfl (by decide) ?_
                  refine VL.gn rfl rfl rfl (by decide) ?_
                  refine VL.gn rfl rfl rfl (by decide) ?_
                  refine VL.gn rfl rfl rfl (by decide) ?_
                  refine VL.gn rfl rfl rfl (by decide) ?_
                  refine VL.gn rfl rfl rfl (by decide) ?_
                  refine VL.gn rfl rfl rfl (by decide) ?_
                  refine VL.q (q_pick_f rfl rfl) (by decide) ?_
                  refine VL.q (q_assign rfl) (by decide) ?_
                  refine VL.to (fun _ _ h => h) ?_
                  refine VC.keep [0] rfl ?_
                  cases hS
                  exact VC.ret (fin1 (.inr rfl) rfl rfl () rfl trivial (fun _ _ => trivial) (fun _ _ => trivial))
              ·
                replace hS := it_f h65 hS
                refine VL.gn rfl rfl rfl (by decide) ?_
                refine VL.gn rfl rfl rfl (by decide) ?_
                refine VL.q (q_pick_f rfl rfl) (by decide) ?_
                refine VL.q (q_move rfl) (by decide) ?_
                refine VL.gn rfl rfl rfl (by decide) ?_
                refine VL.gn rfl rfl rfl (by decide) ?_
                refine VL.gn rfl rfl rfl (by decide) ?_
                refine VL.q (q_pick_f rfl rfl) (by decide) ?_
                refine VL.q (q_move rfl) (by decide) ?_
                refine VL.gn rfl rfl rfl (by decide) ?_
                refine VL.gn rfl rfl rfl (by decide) ?_
                refine VL.gn rfl rfl rfl (by decide) ?_
                refine VL.gn rfl rfl rfl (by decide) ?_
                refine VL.q (q_pick_f rfl rfl) (by decide) ?_
                refine VL.q (q_move rfl) (by decide) ?_
                refine VL.gn rfl rfl rfl (by decide) ?_
                refine VL.gn rfl rfl rfl (by decide) ?_
                refine VL.gn rfl rfl rfl (by decide) ?_
                refine VL.q (q_pick_f rfl rfl) (by decide) ?_
                refine VL.q (q_move rfl) (by decide) ?_
                refine VL.gn rfl rfl rfl (by decide) ?_
                refine VL.gn rfl rfl rfl (by decide) ?_
                refine VL.gn rfl rfl rfl (by decide) ?_
                refine VL.gn rfl rfl rfl (by decide) ?_
                refine VL.gn rfl rfl rfl (by decide) ?_
                refine VL.gn rfl rfl rfl (by decide) ?_
                refine VL.gn rfl rfl rfl (by decide) ?_
                refine VL.q (q_pick_f rfl rfl) (by decide) ?_
                refine VL.q (q_assign rfl) (by decide) ?_
                refine VL.to (fun _ _ h => h) ?_
                refine VC.keep [0] rfl ?_
                cases hS
                exact VC.ret (fin1 (.inr rfl) rfl rfl () rfl trivial (fun _ _ => trivial) (fun _ _ => trivial))
            ·
              replace hS := it_f h61 hS
              refine VL.gn rfl rfl rfl (by decide) ?_
              refine VL.gn rfl rfl rfl (by decide) ?_
              refine VL.q (q_pick_f rfl rfl) (by decide) ?_
              refine VL.q (q_move rfl) (by decide) ?_
              refine VL.gn rfl rfl rfl (by decide) ?_
              refine VL.gn rfl rfl rfl (by decide) ?_
              refine VL.q (q_pick_f rfl rfl) (by decide) ?_
              refine VL.q (q_move rfl) (by decide) ?_
              refine VL.gn rfl rfl rfl (by decide) ?_
              refine VL.gn rfl rfl rfl (by decide) ?_
              refine VL.gn rfl rfl rfl (by decide) ?_
              refine VL.q (q_pick_f rfl rfl) (by decide) ?_
              refine VL.q (q_move rfl) (by decide) ?_
              refine VL.gn rfl rfl rfl (by decide) ?_
              refine VL.gn rfl rfl rfl (by decide) ?_
              refine VL.gn rfl rfl rfl (by decide) ?_
              refine VL.gn rfl rfl rfl (by decide) ?_
              refine VL.q (q_pick_f rfl rfl) (by decide) ?_
              refine VL.q (q_move rfl) (by decide) ?_
              refine VL.gn rfl rfl rfl (by decide) ?_
              refine VL.gn rfl rfl rfl (by decide) ?_
              refine VL.gn rfl rfl rfl (by decide) ?_
              refine VL.q (q_pick_f rfl rfl) (by decide) ?_
              refine VL.q (q_move rfl) (by decide) ?_
              refine VL.gn rfl rfl rfl (by decide) ?_
              refine VL.gn rfl rfl rfl (by decide) ?_
              refine VL.gn rfl rfl rfl (by decide) ?_
              refine VL.gn rfl rfl rfl (by decide) ?_
              refine VL.gn rfl rfl rfl (by decide) ?_
              refine VL.gn rfl rfl rfl (by decide) ?_
              refine VL.gn rfl rfl rfl (by decide) ?_
              refine VL.q (q_pick_f rfl rfl) (by decide) ?_
              refine VL.q (q_assign rfl) (by decide) ?_
              refine VL.to (fun _ _ h => h) ?_
              refine VC.keep [0] rfl ?_
              cases hS
              exact VC.ret (fin1 (.inr rfl) rfl rfl () rfl trivial (fun _ _ => trivial) (fun _ _ => trivial))
          ·
            replace hS := it_f h55 hS
            refine VL.gn rfl rfl rfl (by decide) ?_
            refine VL.gn rfl rfl rfl (by decide) ?_
            refine VL.gn rfl rfl rfl (by decide) ?_
            refine VL.gn rfl rfl rfl (by decide) ?_
            refine VL.q (q_pick_f rfl rfl) (by decide) ?_
            refine VL.q (q_move rfl) (by decide) ?_
            refine VL.gn rfl rfl rfl (by decide) ?_
            refine VL.gn rfl rfl rfl (by decide) ?_
            refine VL.q (q_pick_f rfl rfl) (by decide) ?_
            refine VL.q (q_move rfl) (by decide) ?_
            refine VL.gn rfl rfl rfl (by decide) ?_
            refine VL.gn rfl rfl rfl (by decide) ?_
            refine VL.q (q_pick_f rfl rfl) (by decide) ?_
            refine VL.q (q_move rfl) (by decide) ?_
            refine VL.gn rfl rfl rfl (by decide) ?_
            refine VL.gn rfl rfl rfl (by decide) ?_
            refine VL.gn rfl rfl rfl (by decide) ?_
            refine VL.q (q_pick_f rfl rfl) (by decide) ?_
            refine VL.q (q_move rfl) (by decide) ?_
            refine VL.gn rfl rfl rfl (by decide) ?_
            refine VL.gn rfl rfl rfl (by decide) ?_
            refine VL.gn rfl rfl rfl (by decide) ?_
            refine VL.gn rfl rfl rfl (by decide) ?_
            refine VL.q (q_pick_f rfl rfl) (by decide) ?_
            refine VL.q (q_move rfl) (by decide) ?_
            refine VL.gn rfl rfl rfl (by decide) ?_
            refine VL.gn rfl rfl rfl (by decide) ?_
            refine VL.gn rfl rfl rfl (by decide) ?_
            refine VL.q (q_pick_f rfl rfl) (by decide) ?_
            refine VL.q (q_move rfl) (by decide) ?_
            refine VL.gn rfl rfl rfl (by decide) ?_
            refine VL.gn rfl rfl rfl (by decide) ?_
            refine VL.gn rfl rfl rfl (by decide) ?_
            refine VL.gn rfl rfl rfl (by decide) ?_
            refine VL.gn rfl rfl rfl (by decide) ?_
            refine VL.gn rfl rfl rfl (by decide) ?_
            refine VL.gn rfl rfl rfl (by decide) ?_
            refine VL.q (q_pick_f rfl rfl) (by decide) ?_
            refine VL.q (q_assign rfl) (by decide) ?_
            refine VL.to (fun _ _ h => h) ?_
            refine VC.keep [0] rfl ?_
            cases hS
            exact VC.ret (fin1 (.inr rfl) rfl rfl () rfl trivial (fun _ _ => trivial) (fun _ _ => trivial))
        ·
          replace hS := it_f h50 hS
          refine VL.gn rfl rfl rfl (by decide) ?_
          refine VL.gn rfl rfl rfl (by decide) ?_
          refine VL.gn rfl rfl rfl (by decide) ?_
          refine VL.q (q_pick_f rfl rfl) (by decide) ?_
          refine VL.q (q_move rfl) (by decide) ?_
          refine VL.gn rfl rfl rfl (by decide) ?_
          refine VL.gn rfl rfl rfl (by decide) ?_
          refine VL.gn rfl rfl rfl (by decide) ?_
          refine VL.gn rfl rfl rfl (by decide) ?_
          refine VL.q (q_pick_f rfl rfl) (by decide) ?_
          refine VL.q (q_move rfl) (by decide) ?_
          refine VL.gn rfl rfl rfl (by decide) ?_
          refine VL.gn rfl rfl rfl (by decide) ?_
          refine VL.q (q_pick_f rfl rfl) (by decide) ?_
          refine VL.q (q_move rfl) (by decide) ?_
          refine VL.gn rfl rfl rfl (by decide) ?_
          refine VL.gn rfl rfl rfl (by decide) ?_
          refine VL.q (q_pick_f rfl rfl) (by decide) ?_
          refine VL.q (q_move rfl) (by decide) ?_
          refine VL.gn rfl rfl rfl (by decide) ?_
          refine VL.gn rfl rfl rfl (by decide) ?_
          refine VL.gn rfl rfl rfl (by decide) ?_
          refine VL.q (q_pick_f rfl rfl) (by decide) ?_
          refine VL.q (q_move rfl) (by decide) ?_
          refine VL.gn rfl rfl rfl (by decide) ?_
          refine VL.gn rfl rfl rfl (by decide) ?_
          refine VL.gn rfl rfl rfl (by decide) ?_
          refine VL.gn rfl rfl rfl (by decide) ?_
          refine VL.q (q_pick_f rfl rfl) (by decide) ?_
          refine VL.q (q_move rfl) (by decide) ?_
          refine VL.gn rfl rfl rfl (by decide) ?_
          refine VL.gn rfl rfl rfl (by decide) ?_
          refine VL.gn rfl rfl rfl (by decide) ?_
          refine VL.q (q_pick_f rfl rfl) (by decide) ?_
          refine VL.q (q_move rfl) (by decide) ?_
          refine VL.gn rfl rfl rfl (by decide) ?_
          refine VL.gn rfl rfl rfl (by decide) ?_
          refine VL.gn rfl rfl rfl (by decide) ?_
          refine VL.gn rfl rfl rfl (by decide) ?_
          refine VL.gn rfl rfl rfl (by decide) ?_
          refine VL.gn rfl rfl rfl (by decide) ?_
          refine VL.gn rfl rfl rfl (by decide) ?_
          refine VL.q (q_pick_f rfl rfl) (by decide) ?_
          refine VL.q (q_assign rfl) (by decide) ?_
          refine VL.to (fun _ _ h => h) ?_
          refine VC.keep [0] rfl ?_
          cases hS
          exact VC.ret (fin1 (.inr rfl) rfl rfl () rfl trivial (fun _ _ => trivial) (fun _ _ => trivial))
      ·
        replace hS := it_f h43 hS
        refine VL.gn rfl rfl rfl (by decide) ?_
        refine VL.gn rfl rfl rfl (by decide) ?_
        refine VL.gn rfl rfl rfl (by decide) ?_
        refine VL.gn rfl rfl rfl (by decide) ?_
        refine VL.gn rfl rfl rfl (by decide) ?_
        refine VL.q (q_pick_f rfl rfl) (by decide) ?_
        refine VL.q (q_move rfl) (by decide) ?_
        refine VL.gn rfl rfl rfl (by decide) ?_
        refine VL.gn rfl rfl rfl (by decide) ?_
        refine VL.gn rfl rfl rfl (by decide) ?_
        refine VL.q (q_pick_f rfl rfl) (by decide) ?_
        refine VL.q (q_move rfl) (by decide) ?_
        refine VL.gn rfl rfl rfl (by decide) ?_
        refine VL.gn rfl rfl rfl (by decide) ?_
        refine VL.gn rfl rfl rfl (by decide) ?_
        refine VL.gn rfl rfl rfl (by decide) ?_
        refine VL.q (q_pick_f rfl rfl) (by decide) ?_
        refine VL.q (q_move rfl) (by decide) ?_
        refine VL.gn rfl rfl rfl (by decide) ?_
        refine VL.gn rfl rfl rfl (by decide) ?_
        refine VL.q (q_pick_f rfl rfl) (by decide) ?_
        refine VL.q (q_move rfl) (by decide) ?_
        refine VL.gn rfl rfl rfl (by decide) ?_
        refine VL.gn rfl rfl rfl (by decide) ?_
        refine VL.q (q_pick_f rfl rfl) (by decide) ?_
        refine VL.q (q_move rfl) (by decide) ?_
        refine VL.gn rfl rfl rfl (by decide) ?_
        refine VL.gn rfl rfl rfl (by decide) ?_
        refine VL.gn rfl rfl rfl (by decide) ?_
        refine VL.q (q_pick_f rfl rfl) (by decide) ?_
        refine VL.q (q_move rfl) (by decide) ?_
        refine VL.gn rfl rfl rfl (by decide) ?_
        refine VL.gn rfl rfl rfl (by decide) ?_
        refine VL.gn rfl rfl rfl (by decide) ?_
        refine VL.gn rfl rfl rfl (by decide) ?_
        refine VL.q (q_pick_f rfl rfl) (by decide) ?_
        refine VL.q (q_move rfl) (by decide) ?_
        refine VL.gn rfl rfl rfl (by decide) ?_
        refine VL.gn rfl rfl rfl (by decide) ?_
        refine VL.gn rfl rfl rfl (by decide) ?_
        refine VL.q (q_pick_f rfl rfl) (by decide) ?_
        refine VL.q (q_move rfl) (by decide) ?_
        refine VL.gn rfl rfl rfl (by decide) ?_
        refine VL.gn rfl rfl rfl (by decide) ?_
        refine VL.gn rfl rfl rfl (by decide) ?_
        refine VL.gn rfl rfl rfl (by decide) ?_
        refine VL.gn rfl rfl rfl (by decide) ?_
        refine VL.gn rfl rfl rfl (by decide) ?_
        refine VL.gn rfl rfl rfl (by decide) ?_
        refine VL.q (q_pick_f rfl rfl) (by decide) ?_
        refine VL.q (q_assign rfl) (by decide) ?_
        refine VL.to (fun _ _ h => h) ?_
        refine VC.keep [0] rfl ?_
        cases hS
        exact VC.ret (fin1 (.inr rfl) rfl rfl () rfl trivial (fun _ _ => trivial) (fun _ _ => trivial))
    ·
      replace hS := it_f h38 hS
      refine VL.gn rfl rfl rfl (by decide) ?_
      refine VL.gn rfl rfl rfl (by decide) ?_
      refine VL.gn rfl rfl rfl (by decide) ?_
      refine VL.q (q_pick_f rfl rfl) (by decide) ?_
      refine VL.q (q_move rfl) (by decide) ?_
      refine VL.gn rfl rfl rfl (by decide) ?_
      refine VL.gn rfl rfl rfl (by decide) ?_
      refine VL.gn rfl rfl rfl (by decide) ?_
      refine VL.gn rfl rfl rfl (by decide) ?_
      refine VL.gn rfl rfl rfl (by decide) ?_
      refine VL.q (q_pick_f rfl rfl) (by decide) ?_
      refine VL.q (q_move rfl) (by decide) ?_
      refine VL.gn rfl rfl rfl (by decide) ?_
      refine VL.gn rfl rfl rfl (by decide) ?_
      refine VL.gn rfl rfl rfl (by decide) ?_
      refine VL.q (q_pick_f rfl rfl) (by decide) ?_
      refine VL.q (q_move rfl) (by decide) ?_
      refine VL.gn rfl rfl rfl (by decide) ?_
      refine VL.gn rfl rfl rfl (by decide) ?_
      refine VL.gn rfl rfl rfl (by decide) ?_
      refine VL.gn rfl rfl rfl (by decide) ?_
      refine VL.q (q_pick_f rfl rfl) (by decide) ?_
      refine VL.q (q_move rfl) (by decide) ?_
      refine VL.gn rfl rfl rfl (by decide) ?_
      refine VL.gn rfl rfl rfl (by decide) ?_
      refine VL.q (q_pick_f rfl rfl) (by decide) ?_
      refine VL.q (q_move rfl) (by decide) ?_
      refine VL.gn rfl rfl rfl (by decide) ?_
      refine VL.gn rfl rfl rfl (by decide) ?_
      refine VL.q (q_pick_f rfl rfl) (by decide) ?_
      refine VL.q (q_move rfl) (by decide) ?_
      refine VL.gn rfl rfl rfl (by decide) ?_
      refine VL.gn rfl rfl rfl (by decide) ?_
      refine VL.gn rfl rfl rfl (by decide) ?_
      refine VL.q (q_pick_f rfl rfl) (by decide) ?_
      refine VL.q (q_move rfl) (by decide) ?_
      refine VL.gn rfl rfl rfl (by decide) ?_
      refine VL.gn rfl rfl rfl (by decide) ?_
      refine VL.gn rfl rfl rfl (by decide) ?_
      refine VL.gn rfl rfl rfl (by decide) ?_
      refine VL.q (q_pick_f rfl rfl) (by decide) ?_
      refine VL.q (q_move rfl) (by decide) ?_
      refine VL.gn rfl rfl rfl (by decide) ?_
      refine VL.gn rfl rfl rfl (by decide) ?_
      refine VL.gn rfl rfl rfl (by decide) ?_
      refine VL.q (q_pick_f rfl rfl) (by decide) ?_
      refine VL.q (q_move rfl) (by decide) ?_
      refine VL.gn rfl rfl rfl (by decide) ?_
      refine VL.gn rfl rfl rfl (by decide) ?_
      refine VL.gn rfl rfl rfl (by decide) ?_
      refine VL.gn rfl rfl rfl (by decide) ?_
      refine VL.gn rfl rfl rfl (by decide) ?_
      refine VL.gn rfl rfl rfl (by decide) ?_
      refine VL.gn rfl rfl rfl (by decide) ?_
      refine VL.q (q_pick_f rfl rfl) (by decide) ?_
      refine VL.q (q_assign rfl) (by decide) ?_
      refine VL.to (fun _ _ h => h) ?_
      refine VC.keep [0] rfl ?_
      cases hS
      exact VC.ret (fin1 (.inr rfl) rfl rfl () rfl trivial (fun _ _ => trivial) (fun _ _ => trivial))
  ·
    replace hS := it_f h33 hS
    refine VL.gn rfl rfl rfl (by decide) ?_
    refine VL.gn rfl rfl rfl (by decide) ?_
    refine VL.gn rfl rfl rfl (by decide) ?_
    refine VL.q (q_pick_f rfl rfl) (by decide) ?_
    refine VL.q (q_move rfl) (by decide) ?_
    refine VL.gn rfl rfl rfl (by decide) ?_
    refine VL.gn rfl rfl rfl (by decide) ?_
    refine VL.gn rfl rfl rfl (by decide) ?_
    refine VL.q (q_pick_f rfl rfl) (by decide) ?_
    refine VL.q (q_move rfl) (by decide) ?_
    refine VL.gn rfl rfl rfl (by decide) ?_
    refine VL.gn rfl rfl rfl (by decide) ?_
    refine VL.gn rfl rfl rfl (by decide) ?_
    refine VL.gn rfl rfl rfl (by decide) ?_
    refine VL.gn rfl rfl rfl (by decide) ?_
    refine VL.q (q_pick_f rfl rfl) (by decide) ?_
    refine VL.q (q_move rfl) (by decide) ?_
    refine VL.gn rfl rfl rfl (by decide) ?_
    refine VL.gn rfl rfl rfl (by decide) ?_
    refine VL.gn rfl rfl rfl (by decide) ?_
    refine VL.q (q_pick_f rfl rfl) (by decide) ?_
    refine VL.q (q_move rfl) (by decide) ?_
    refine VL.gn rfl rfl rfl (by decide) ?_
    refine VL.gn rfl rfl rfl (by decide) ?_
    refine VL.gn rfl rfl rfl (by decide) ?_
    refine VL.gn rfl rfl rfl (by decide) ?_
    refine VL.q (q_pick_f rfl rfl) (by decide) ?_
    refine VL.q (q_move rfl) (by decide) ?_
    refine VL.gn rfl rfl rfl (by decide) ?_
    refine VL.gn rfl rfl rfl (by decide) ?_
    refine VL.q (q_pick_f rfl rfl) (by decide) ?_
    refine VL.q (q_move rfl) (by decide) ?_
    refine VL.gn rfl rfl rfl (by decide) ?_
    refine VL.gn rfl rfl rfl (by decide) ?_
    refine VL.q (q_pick_f rfl rfl) (by decide) ?_
    refine VL.q (q_move rfl) (by decide) ?_
    refine VL.gn rfl rfl rfl (by decide) ?_
    refine VL.gn rfl rfl rfl (by decide) ?_
    refine VL.gn rfl rfl rfl (by decide) ?_
    refine VL.q (q_pick_f rfl rfl) (by decide) ?_
    refine VL.q (q_move rfl) (by decide) ?_
    refine VL.gn rfl rfl rfl (by decide) ?_
    refine VL.gn rfl rfl rfl (by decide) ?_
    refine VL.gn rfl rfl rfl (by decide) ?_
    refine VL.gn rfl rfl rfl (by decide) ?_
    refine VL.q (q_pick_f rfl rfl) (by decide) ?_
    refine VL.q (q_move rfl) (by decide) ?_
    refine VL.gn rfl rfl rfl (by decide) ?_
    refine VL.gn rfl rfl rfl (by decide) ?_
    refine VL.gn rfl rfl rfl (by decide) ?_
    refine VL.q (q_pick_f rfl rfl) (by decide) ?_
    refine VL.q (q_move rfl) (by decide) ?_
    refine VL.gn rfl rfl rfl (by decide) ?_
    refine VL.gn rfl rfl rfl (by decide) ?_
    refine VL.gn rfl rfl rfl (by decide) ?_
    refine VL.gn rfl rfl rfl (by decide) ?_
    refine VL.gn rfl rfl rfl (by decide) ?_
    refine VL.gn rfl rfl rfl (by decide) ?_
    refine VL.gn rfl rfl rfl (by decide) ?_
    refine VL.q (q_pick_f rfl rfl) (by decide) ?_
    refine VL.q (q_assign rfl) (by decide) ?_
    refine VL.to (fun _ _ h => h) ?_
    refine VC.keep [0] rfl ?_
    cases hS
    exact VC.ret (fin1 (.inr rfl) rfl rfl () rfl trivial (fun _ _ => trivial) (fun _ _ => trivial))

set_option maxHeartbeats 4000000 in
set_option maxRecDepth 100000 in
theorem rectolaw15_IndexStages_ct (b_0 : Sv UInt8) (which_1 : Int) {r : Bool} (hS : Sh.rectolaw15_IndexStages b_0.l which_1 = some r) :
    Ct Tryz.prog 5 [b_0.val, .int .u8 which_1] b_0.ok (Ow.emp) (X := Unit) (fun _ => .bool r) (fun _ => True) (fun _ => Mo.tt) (fun _ => Ow.emp) := by
  refine Ct.of Tryz.func5 rfl (by kernel_rfl) Tryz.ntmps5 (by simp) fun c => ?_
  unfold Sh.rectolaw15_IndexStages at hS
  refine VC.seq ?_
  refine VC.region ?_
  refine VL.q (q_assign rfl) (by decide) ?_
  refine VL.to (fun _ _ h => h) ?_
  refine VC.seq ?_
  refine VC.seq ?_
  refine VC.region ?_
  obtain ⟨y11_1, ey11_1, hS⟩ := bd_s hS
  refine VL.q (q_call (rectolaw15_known_ct ey11_1) rfl (fun _ _ => rfl)) (by decide) ?_
  refine VL.q (q_not rfl) (by decide) ?_
  refine VL.to (fun _ _ h => h) ?_
  refine VC.cond rfl (fun h12 => ?_) (fun h12 => ?_)
  ·
    replace hS := it_t h12 hS
    refine VC.seq ?_
    refine VC.region ?_
    refine VL.q (q_assign rfl) (by decide) ?_
    refine VL.to (fun _ _ h => h) ?_
    cases hS
    exact VC.ret (fin1 (.inr rfl) rfl rfl () rfl trivial (fun _ _ => trivial) (fun _ _ => trivial))
  ·
    replace hS := it_b h12 hS
    refine VC.skip_to (fun _ _ h => h) ?_
    refine VC.seq ?_
    refine VC.seq ?_
    refine VC.region ?_
    refine VL.q (q_move rfl) (by decide) ?_
    refine VL.q (q_ln (s := b_0) Tryz.underlying23 rfl) (by decide) ?_
    refine VL.q (q_gtr rfl rfl) (by decide) ?_
    refine VL.to (fun _ _ h => h) ?_
    refine VC.cond_dec rfl (fun h15 => ?_) (fun h15 => ?_)
    ·
      replace hS := it_t h15 hS
      refine VC.seq ?_
      refine VC.region ?_
      refine VL.q (q_assign rfl) (by decide) ?_
      refine VL.to (fun _ _ h => h) ?_
      cases hS
      exact VC.ret (fin1 (.inr rfl) rfl rfl () rfl trivial (fun _ _ => trivial) (fun _ _ => trivial))
    ·
      replace hS := it_f h15 hS
      refine VC.skip_to (fun _ _ h => h) ?_
      refine VC.seq ?_
      refine VC.region ?_
      refine VL.q (q_build (vs := [(0, str [97]), (2, i64 1), (3, str [48])]) (cs := #[str [97], i64 0, i64 1, str [48], i64 0, i64 0]) rfl (by kernel_rfl)) (by decide) ?_
      obtain ⟨y17_2, ey17_2, hS⟩ := bd_s hS
      refine VL.callF (index_Put_ct ⟨none, 0, []⟩ (⟨[97], 0, 1, [48], 0, 0⟩ : IndexEntry) ey17_2) rfl (by decide) ?_
      rintro q17_2_0 rfl
      try dsimp only
      refine VL.q (q_assign rfl) (by decide) ?_
      refine VL.to (fun _ _ h => h) ?_
      refine VC.keep [0, 1, 5] rfl ?_
      refine VC.seq ?_
      refine VC.region ?_
      refine VL.q (q_assign rfl) (by decide) ?_
      refine VL.to (fun _ _ h => h) ?_
      refine VC.seq ?_
      refine VC.seq ?_
      refine VC.region ?_
      refine VL.q (q_assign rfl) (by decide) ?_
      refine VL.to (fun _ _ h => h) ?_
      refine VC.block ?_
      refine VC.iter (S := Sv IndexEntry × Int × Int) (fun sg => (sg.1.l, sg.2.1, sg.2.2)) (fun sg => [(0, b_0.val), (1, .int .u8 which_1), (5, sg.1.val), (6, i64 sg.2.1), (7, i64 sg.2.2)]) (fun sg => sg.1.ok) (fun sg => Ow.emp) (q17_2_0, 0, 1) [0, 1, 5, 6, 7] hS rfl ?_
      clear hS
      rintro ⟨l5_3, n6_4, s7_5⟩ m1 y1 hS hK1
      show VC _ _ _ _ _ [(0, b_0.val), (1, .int .u8 which_1), (5, l5_3.val), (6, i64 n6_4), (7, i64 s7_5)] (Mo.and l5_3.ok _) (Ow.emp)
      refine VC.seq ?_
      refine VC.seq ?_
      refine VC.region ?_
      refine VL.q (q_move rfl) (by decide) ?_
      refine VL.q (q_leq rfl rfl) (by decide) ?_
      refine VL.to (fun _ _ h => h) ?_
      refine VC.cond_dec rfl (fun h19 => ?_) (fun h19 => ?_)
      ·
        replace hS := it_t h19 hS
        refine VC.skip_to (fun _ _ h => h) ?_
        refine VC.cutJ (S := Sv IndexEntry × Int) (fun sg => (sg.1.l, sg.2)) (fun sg => [(0, b_0.val), (1, .int .u8 which_1), (5, sg.1.val), (6, i64 sg.2), (7, i64 s7_5)]) (fun sg => sg.1.ok) (fun sg => Ow.emp) hS ?_ ?_
        · -- up to where ways meet
          clear hS
          intro k8 hS
          refine VC.block ?_
          refine VC.seq ?_
          refine VC.region ?_
          refine VL.q (q_move rfl) (by decide) ?_
          refine VL.q (q_move rfl) (by decide) ?_
          refine VL.q (q_convW Tryz.underlying3 Tryz.underlying57 rfl) (by decide) ?_
          obtain ⟨b25, hS⟩ := gd_s hS
          refine VL.q (q_shr rfl rfl b25) (by decide) ?_
          refine VL.q (q_and rfl rfl) (by decide) ?_
          refine VL.q (q_eql rfl rfl) (by decide) ?_
          refine VL.to (fun _ _ h => h) ?_
          refine VC.keep [0, 1, 5, 6, 7, 27] rfl ?_
          refine VC.cond_dec rfl (fun h27 => ?_) (fun h27 => ?_)
          ·
            replace hS := it_t h27 hS
            refine VC.seq ?_
            refine VC.region ?_
            refine VL.q (q_move rfl) (by decide) ?_
            refine VL.q (q_move rfl) (by decide) ?_
            refine VL.q (q_move rfl) (by decide) ?_
            refine VL.q (q_b2s (s := b_0) Tryz.underlying23 Tryz.underlying5 Tryz.underlying9 rfl) (by decide) ?_
            refine VL.q (q_build (vs := [(0, str [97]), (1, i64 s7_5), (2, i64 1), (3, str b_0.l)]) (cs := #[str [97], i64 s7_5, i64 1, str b_0.l, i64 0, i64 0]) rfl (by kernel_rfl)) (by decide) ?_
            obtain ⟨y33_9, ey33_9, hS⟩ := bd_s hS
            refine VL.callF (index_Put_ct l5_3 (⟨[97], s7_5, 1, b_0.l, 0, 0⟩ : IndexEntry) ey33_9) rfl (by decide) ?_
            rintro q33_9_0 rfl
            try dsimp only
            refine VL.q (q_assign rfl) (by decide) ?_
            refine VL.to (fun _ _ h => h) ?_
            refine VC.keep [0, 1, 5, 6, 7] rfl ?_
            refine VC.region ?_
            refine VL.q (q_move rfl) (by decide) ?_
            obtain ⟨b35, hS⟩ := gd_s hS
            refine VL.q (q_add rfl rfl b35) (by decide) ?_
            refine VL.q (q_assign rfl) (by decide) ?_
            refine VL.mt (q33_9_0, (n6_4 + 1)) [0, 1, 5, 6, 7] (fun _ _ h => h) hS rfl
          ·
            replace hS := it_f h27 hS
            refine VC.skip_mt (l5_3, n6_4) [0, 1, 5, 6, 7] (fun _ _ h => h) hS rfl
        · -- from there
          clear hS
          rintro ⟨l5_6, n6_7⟩ hS
          show VC _ _ _ _ _ [(0, b_0.val), (1, .int .u8 which_1), (5, l5_6.val), (6, i64 n6_7), (7, i64 s7_5)] (Mo.and l5_6.ok _) (Ow.emp)
          refine VC.region ?_
          refine VL.q (q_move rfl) (by decide) ?_
          obtain ⟨b21, hS⟩ := gd_s hS
          refine VL.q (q_add rfl rfl b21) (by decide) ?_
          refine VL.q (q_assign rfl) (by decide) ?_
          refine VL.rnd (l5_6, n6_7, (s7_5 + 1)) [0, 1, 5, 6, 7] (fun _ _ h => h) (go2 hS hK1) rfl
      ·
        replace hS := it_f h19 hS
        replace hS := up2 hS hK1
        refine VC.exit_to (fun _ _ h => h) ?_
        refine VC.seq ?_
        refine VC.region ?_
        refine VL.q (q_move rfl) (by decide) ?_
        obtain ⟨y37_10, ey37_10, hS⟩ := bd_s hS
        refine VL.callF (index_Conflicts_ct l5_3 ey37_10) rfl (by decide) ?_
        rintro q37_10_0 rfl
        try dsimp only
        refine VL.q (q_assign rfl) (by decide) ?_
        refine VL.to (fun _ _ h => h) ?_
        refine VC.seq ?_
        refine VC.region ?_
        refine VL.q (q_move rfl) (by decide) ?_
        obtain ⟨y39_11, ey39_11, hS⟩ := bd_s hS
        refine VL.callF (index_Stage_ct l5_3 0 ey39_11) rfl (by decide) ?_
        rintro q39_11_0 rfl
        try dsimp only
        refine VL.q (q_assign rfl) (by decide) ?_
        refine VL.to (fun _ _ h => h) ?_
        refine VC.keep [5, 6, 8, 9] rfl ?_
        refine VC.seq ?_
        refine VC.seq ?_
        refine VC.region ?_
        refine VL.q (q_move rfl) (by decide) ?_
        refine VL.q (q_eql rfl rfl) (by decide) ?_
        refine VL.to (fun _ _ h => h) ?_
        refine VC.cond_dec rfl (fun h41 => ?_) (fun h41 => ?_)
        ·
          replace hS := it_t h41 hS
          refine VC.seq ?_
          refine VC.region ?_
          refine VL.q (q_move rfl) (by decide) ?_
          refine VL.q (q_ln (s := q37_10_0) Tryz.underlying42 rfl) (by decide) ?_
          refine VL.q (q_eql rfl rfl) (by decide) ?_
          refine VL.q (q_move rfl) (by decide) ?_
          refine VL.split_dec 45 rfl (fun h45 => ?_) (fun h45 => ?_)
          ·
            replace hS := it_t h45 hS
            refine VL.gy rfl rfl (q_move rfl) (by decide) ?_
            refine VL.gy rfl rfl (q_ln (s := q39_11_0) Tryz.underlying60 rfl) (by decide) ?_
            refine VL.gy rfl rfl (q_eql rfl rfl) (by decide) ?_
            refine VL.q (q_pick_t rfl rfl) (by decide) ?_
            refine VL.q (q_assign rfl) (by decide) ?_
            refine VL.to (fun _ _ h => h) ?_
            refine VC.keep [4] rfl ?_
            cases hS
            exact VC.ret (fin1 (.inr rfl) rfl rfl () rfl trivial (fun _ _ => trivial) (fun _ _ => trivial))
          ·
            replace hS := it_f h45 hS
            refine VL.gn rfl rfl rfl (by decide) ?_
            refine VL.gn rfl rfl rfl (by decide) ?_
            refine VL.gn rfl rfl rfl (by decide) ?_
            refine VL.q (q_pick_f rfl rfl) (by decide) ?_
            refine VL.q (q_assign rfl) (by decide) ?_
            refine VL.to (fun _ _ h => h) ?_
            refine VC.keep [4] rfl ?_
            cases hS
            exact VC.ret (fin1 (.inr rfl) rfl rfl () rfl trivial (fun _ _ => trivial) (fun _ _ => trivial))
        ·
          replace hS := it_f h41 hS
          refine VC.skip_to (fun _ _ h => h) ?_
          refine VC.seq ?_
          refine VC.cutJ (S := Bool) (fun (x68_12 : Bool) => x68_12) (fun (x68_12 : Bool) => [(5, l5_3.val), (6, i64 n6_4), (68, .bool x68_12)]) (fun (x68_12 : Bool) => Mo.tt) (fun (x68_12 : Bool) => Ow.emp) hS ?_ ?_
          · -- up to where ways meet
            clear hS
            intro k13 hS
            refine VC.region ?_
            refine VL.q (q_move rfl) (by decide) ?_
            refine VL.q (q_ln (s := l5_3) Tryz.underlying41 rfl) (by decide) ?_
            refine VL.q (q_move rfl) (by decide) ?_
            refine VL.q (q_neq rfl rfl) (by decide) ?_
            refine VL.q (q_move rfl) (by decide) ?_
            refine VL.split_ndec 54 rfl (fun h54 => ?_) (fun h54 => ?_)
            ·
              replace hS := it_f h54 hS
              refine VL.gn rfl rfl rfl (by decide) ?_
              refine VL.gn rfl rfl rfl (by decide) ?_
              refine VL.gn rfl rfl rfl (by decide) ?_
              refine VL.q (q_pick_t rfl rfl) (by decide) ?_
              refine VL.q (q_move rfl) (by decide) ?_
              refine VL.gn rfl rfl rfl (by decide) ?_
              refine VL.gn rfl rfl rfl (by decide) ?_
              refine VL.gn rfl rfl rfl (by decide) ?_
              refine VL.q (q_pick_t rfl rfl) (by decide) ?_
              refine VL.q (q_move rfl) (by decide) ?_
              refine VL.gn rfl rfl rfl (by decide) ?_
              refine VL.gn rfl rfl rfl (by decide) ?_
              refine VL.gn rfl rfl rfl (by decide) ?_
              refine VL.q (q_pick_t rfl rfl) (by decide) ?_
              refine VL.mt true [5, 6, 68] (fun _ _ h => h) hS rfl
            ·
              replace hS := it_t h54 hS
              refine VL.gy rfl rfl (q_move rfl) (by decide) ?_
              refine VL.gy rfl rfl (q_ln (s := q37_10_0) Tryz.underlying42 rfl) (by decide) ?_
              refine VL.gy rfl rfl (q_neq rfl rfl) (by decide) ?_
              refine VL.q (q_pick_f rfl rfl) (by decide) ?_
              refine VL.q (q_move rfl) (by decide) ?_
              refine VL.split_ndec 59 rfl (fun h59 => ?_) (fun h59 => ?_)
              ·
                replace hS := it_f h59 hS
                refine VL.gn rfl rfl rfl (by decide) ?_
                refine VL.gn rfl rfl rfl (by decide) ?_
                refine VL.gn rfl rfl rfl (by decide) ?_
                refine VL.q (q_pick_t rfl rfl) (by decide) ?_
                refine VL.q (q_move rfl) (by decide) ?_
                refine VL.gn rfl rfl rfl (by decide) ?_
                refine VL.gn rfl rfl rfl (by decide) ?_
                refine VL.gn rfl rfl rfl (by decide) ?_
                refine VL.q (q_pick_t rfl rfl) (by decide) ?_
                refine VL.mt true [5, 6, 68] (fun _ _ h => h) hS rfl
              ·
                replace hS := it_t h59 hS
                refine VL.gy rfl rfl (q_move rfl) (by decide) ?_
                refine VL.gy rfl rfl (q_ln (s := q39_11_0) Tryz.underlying60 rfl) (by decide) ?_
                refine VL.gy rfl rfl (q_neq rfl rfl) (by decide) ?_
                refine VL.q (q_pick_f rfl rfl) (by decide) ?_
                refine VL.q (q_move rfl) (by decide) ?_
                refine VL.split_ndec 64 rfl (fun h64 => ?_) (fun h64 => ?_)
                ·
                  replace hS := it_f h64 hS
                  refine VL.gn rfl rfl rfl (by decide) ?_
                  refine VL.gn rfl rfl rfl (by decide) ?_
                  refine VL.gn rfl rfl rfl (by decide) ?_
                  refine VL.q (q_pick_t rfl rfl) (by decide) ?_
                  refine VL.mt true [5, 6, 68] (fun _ _ h => h) hS rfl
                ·
                  replace hS := it_t h64 hS
                  refine VL.gy rfl rfl (q_move rfl) (by decide) ?_
                  refine VL.guard rfl rfl ?_
                  obtain ⟨y66_14, ey66_14, hS⟩ := bd_s hS
                  refine VL.callF (index_Check_ct l5_3 ey66_14) rfl (by decide) ?_
                  rintro q66_14_0 rfl
                  try dsimp only
                  refine VL.gy rfl rfl (q_erne Tryz.underlying38 rfl) (by decide) ?_
                  refine VL.q (q_pick_f rfl rfl) (by decide) ?_
                  refine VL.mt (!decide (q66_14_0.pl.isNil = true)) [5, 6, 68] (fun _ _ h => h) hS rfl
          · -- from there
            clear hS
            rintro x68_12 hS
            show VC _ _ _ _ _ [(5, l5_3.val), (6, i64 n6_4), (68, .bool x68_12)] (Mo.and Mo.tt _) (Ow.emp)
            refine VC.cond rfl (fun h68 => ?_) (fun h68 => ?_)
            ·
              replace hS := it_t h68 hS
              refine VC.seq ?_
              refine VC.region ?_
              refine VL.q (q_assign rfl) (by decide) ?_
              refine VL.to (fun _ _ h => h) ?_
              cases hS
              exact VC.ret (fin1 (.inr rfl) rfl rfl () rfl trivial (fun _ _ => trivial) (fun _ _ => trivial))
            ·
              replace hS := it_b h68 hS
              refine VC.skip_to (fun _ _ h => h) ?_
              refine VC.seq ?_
              refine VC.region ?_
              refine VL.q (q_move rfl) (by decide) ?_
              refine VL.q (q_build (vs := [(0, str [97]), (2, i64 2), (3, str [49])]) (cs := #[str [97], i64 0, i64 2, str [49], i64 0, i64 0]) rfl (by kernel_rfl)) (by decide) ?_
              obtain ⟨y71_15, ey71_15, hS⟩ := bd_s hS
              refine VL.callF (index_Put_ct l5_3 (⟨[97], 0, 2, [49], 0, 0⟩ : IndexEntry) ey71_15) rfl (by decide) ?_
              rintro q71_15_0 rfl
              try dsimp only
              refine VL.q (q_assign rfl) (by decide) ?_
              refine VL.to (fun _ _ h => h) ?_
              refine VC.seq ?_
              refine VC.region ?_
              refine VL.q (q_move rfl) (by decide) ?_
              refine VL.q (q_ln (s := q71_15_0) Tryz.underlying41 rfl) (by decide) ?_
              refine VL.q (q_eql rfl rfl) (by decide) ?_
              refine VL.q (q_move rfl) (by decide) ?_
              refine VL.split_dec 75 rfl (fun h75 => ?_) (fun h75 => ?_)
              ·
                replace hS := it_t h75 hS
                refine VL.gy rfl rfl (q_move rfl) (by decide) ?_
                obtain ⟨z77_16, nz77_16, hz77_16, hS⟩ := at_s hS
                refine VL.gy rfl rfl (q_ixm (s := q71_15_0) Tryz.underlying41 gsz49 rfl rfl nz77_16 (lt_of_get nz77_16 hz77_16)) (by decide) ?_
                refine VL.gy rfl rfl (q_field gfa49_1 rfl) (by decide) ?_
                refine VL.gy rfl rfl (q_elf (s := q71_15_0) gone3 rfl hz77_16 rfl) (by decide) ?_
                refine VL.gy rfl rfl (q_eql rfl rfl) (by decide) ?_
                refine VL.q (q_pick_t rfl rfl) (by decide) ?_
                refine VL.q (q_move rfl) (by decide) ?_
                refine VL.split_dec 82 rfl (fun h82 => ?_) (fun h82 => ?_)
                ·
                  replace hS := it_t h82 hS
                  refine VL.gy rfl rfl (q_move rfl) (by decide) ?_
                  obtain ⟨z84_17, nz84_17, hz84_17, hS⟩ := at_s hS
                  refine VL.gy rfl rfl (q_ixm (s := q71_15_0) Tryz.underlying41 gsz49 rfl rfl nz84_17 (lt_of_get nz84_17 hz84_17)) (by decide) ?_
                  refine VL.gy rfl rfl (q_field gfa49_3 rfl) (by decide) ?_
                  refine VL.gy rfl rfl (q_elf (s := q71_15_0) gone9 rfl hz84_17 rfl) (by decide) ?_
                  refine VL.gy rfl rfl (q_seq rfl rfl) (by decide) ?_
                  refine VL.q (q_pick_t rfl rfl) (by decide) ?_
                  refine VL.q (q_move rfl) (by decide) ?_
                  refine VL.split_dec 89 rfl (fun h89 => ?_) (fun h89 => ?_)
                  ·
                    replace hS := it_t h89 hS
                    refine VL.gy rfl rfl (q_move rfl) (by decide) ?_
                    refine VL.guard rfl rfl ?_
                    obtain ⟨y91_18, ey91_18, hS⟩ := bd_s hS
                    refine VL.callF (index_Conflicts_ct q71_15_0 ey91_18) rfl (by decide) ?_
                    rintro q91_18_0 rfl
                    try dsimp only
                    refine VL.gy rfl rfl (q_ln (s := q91_18_0) Tryz.underlying42 rfl) (by decide) ?_
                    refine VL.gy rfl rfl (q_eql rfl rfl) (by decide) ?_
                    refine VL.q (q_pick_t rfl rfl) (by decide) ?_
                    refine VL.q (q_move rfl) (by decide) ?_
                    refine VL.split_dec 95 rfl (fun h95 => ?_) (fun h95 => ?_)
                    ·
                      replace hS := it_t h95 hS
                      refine VL.gy rfl rfl (q_move rfl) (by decide) ?_
                      refine VL.gy rfl rfl (q_ln (s := l5_3) Tryz.underlying41 rfl) (by decide) ?_
                      refine VL.gy rfl rfl (q_move rfl) (by decide) ?_
                      refine VL.gy rfl rfl (q_eql rfl rfl) (by decide) ?_
                      refine VL.q (q_pick_t rfl rfl) (by decide) ?_
                      refine VL.q (q_assign rfl) (by decide) ?_
                      refine VL.to (fun _ _ h => h) ?_
                      refine VC.keep [4] rfl ?_
                      cases hS
                      exact VC.ret (fin1 (.inr rfl) rfl rfl () rfl trivial (fun _ _ => trivial) (fun _ _ => trivial))
                    ·
                      replace hS := it_f h95 hS
                      refine VL.gn rfl rfl rfl (by decide) ?_
                      refine VL.gn rfl rfl rfl (by decide) ?_
                      refine VL.gn rfl rfl rfl (by decide) ?_
                      refine VL.gn rfl rfl rfl (by decide) ?_
                      refine VL.q (q_pick_f rfl rfl) (by decide) ?_
                      refine VL.q (q_assign rfl) (by decide) ?_
                      refine VL.to (fun _ _ h => h) ?_
                      refine VC.keep [4] rfl ?_
                      cases hS
                      exact VC.ret (fin1 (.inr rfl) rfl rfl () rfl trivial (fun _ _ => trivial) (fun _ _ => trivial))
                  ·
                    replace hS := it_f h89 hS
                    refine VL.gn rfl rfl rfl (by decide) ?_
                    refine VL.gn rfl rfl rfl (by decide) ?_
                    refine VL.gn rfl rfl rfl (by decide) ?_
                    refine VL.gn rfl rfl rfl (by decide) ?_
                    refine VL.q (q_pick_f rfl rfl) (by decide) ?_
                    refine VL.q (q_move rfl) (by decide) ?_
                    refine VL.gn rfl rfl rfl (by decide) ?_
                    refine VL.gn rfl rfl rfl (by decide) ?_
                    refine VL.gn rfl rfl rfl (by decide) ?_
                    refine VL.gn rfl rfl rfl (by decide) ?_
                    refine VL.q (q_pick_f rfl rfl) (by decide) ?_
                    refine VL.q (q_assign rfl) (by decide) ?_
                    refine VL.to (fun _ _ h => h) ?_
                    refine VC.keep [4] rfl ?_
                    cases hS
                    exact VC.ret (fin1 (.inr rfl) rfl rfl () rfl trivial (fun _ _ => trivial) (fun _ _ => trivial))
                ·
                  replace hS := it_f h82 hS
                  refine VL.gn rfl rfl rfl (by decide) ?_
                  refine VL.gn rfl rfl rfl (by decide) ?_
                  refine VL.gn rfl rfl rfl (by decide) ?_
                  refine VL.gn rfl rfl rfl (by decide) ?_
                  refine VL.gn rfl rfl rfl (by decide) ?_
                  refine VL.q (q_pick_f rfl rfl) (by decide) ?_
                  refine VL.q (q_move rfl) (by decide) ?_
                  refine VL.gn rfl rfl rfl (by decide) ?_
                  refine VL.gn rfl rfl rfl (by decide) ?_
                  refine VL.gn rfl rfl rfl (by decide) ?_
                  refine VL.gn rfl rfl rfl (by decide) ?_
                  refine VL.q (q_pick_f rfl rfl) (by decide) ?_
                  refine VL.q (q_move rfl) (by decide) ?_
                  refine VL.gn rfl rfl rfl (by decide) ?_
                  refine VL.gn rfl rfl rfl (by decide) ?_
                  refine VL.gn rfl rfl rfl (by decide) ?_
                  refine VL.gn rfl rfl rfl (by decide) ?_
                  refine VL.q (q_pick_f rfl rfl) (by decide) ?_
                  refine VL.q (q_assign rfl) (by decide) ?_
                  refine VL.to (fun _ _ h => h) ?_
                  refine VC.keep [4] rfl ?_
                  cases hS
                  exact VC.ret (fin1 (.inr rfl) rfl rfl () rfl trivial (fun _ _ => trivial) (fun _ _ => trivial))
              ·
                replace hS := it_f h75 hS
                refine VL.gn rfl rfl rfl (by decide) ?_
                refine VL.gn rfl rfl rfl (by decide) ?_
                refine VL.gn rfl rfl rfl (by decide) ?_
                refine VL.gn rfl rfl rfl (by decide) ?_
                refine VL.gn rfl rfl rfl (by decide) ?_
                refine VL.q (q_pick_f rfl rfl) (by decide) ?_
                refine VL.q (q_move rfl) (by decide) ?_
                refine VL.gn rfl rfl rfl (by decide) ?_
                refine VL.gn rfl rfl rfl (by decide) ?_
                refine VL.gn rfl rfl rfl (by decide) ?_
                refine VL.gn rfl rfl rfl (by decide) ?_
                refine VL.gn rfl rfl rfl (by decide) ?_
                refine VL.q (q_pick_f rfl rfl) (by decide) ?_
                refine VL.q (q_move rfl) (by decide) ?_
                refine VL.gn rfl rfl rfl (by decide) ?_
                refine VL.gn rfl rfl rfl (by decide) ?_
                refine VL.gn rfl rfl rfl (by decide) ?_
                refine VL.gn rfl rfl rfl (by decide) ?_
                refine VL.q (q_pick_f rfl rfl) (by decide) ?_
                refine VL.q (q_move rfl) (by decide) ?_
                refine VL.gn rfl rfl rfl (by decide) ?_
                refine VL.gn rfl rfl rfl (by decide) ?_
                refine VL.gn rfl rfl rfl (by decide) ?_
                refine VL.gn rfl rfl rfl (by decide) ?_
                refine VL.q (q_pick_f rfl rfl) (by decide) ?_
                refine VL.q (q_assign rfl) (by decide) ?_
                refine VL.to (fun _ _ h => h) ?_
                refine VC.keep [4] rfl ?_
                cases hS
                exact VC.ret (fin1 (.inr rfl) rfl rfl () rfl trivial (fun _ _ => trivial) (fun _ _ => trivial))

set_option maxHeartbeats 4000000 in
set_option maxRecDepth 100000 in
theorem rectolaw15_Few_ct (l_0 : Sv IndexEntry) {r : Bool} (hS : Sh.rectolaw15_Few l_0.l = some r) :
    Ct Tryz.prog 13 [l_0.val] l_0.ok (Ow.emp) (X := Unit) (fun _ => .bool r) (fun _ => True) (fun _ => Mo.tt) (fun _ => Ow.emp) := by
  refine Ct.of Tryz.func13 rfl (by kernel_rfl) Tryz.ntmps13 (by simp) fun c => ?_
  unfold Sh.rectolaw15_Few at hS
  refine VC.seq ?_
  refine VC.region ?_
  refine VL.q (q_assign rfl) (by decide) ?_
  refine VL.to (fun _ _ h => h) ?_
  refine VC.seq ?_
  refine VC.seq ?_
  refine VC.region ?_
  refine VL.q (q_move rfl) (by decide) ?_
  refine VL.q (q_ln (s := l_0) Tryz.underlying41 rfl) (by decide) ?_
  refine VL.q (q_gtr rfl rfl) (by decide) ?_
  refine VL.to (fun _ _ h => h) ?_
  refine VC.cond_dec rfl (fun h6 => ?_) (fun h6 => ?_)
  ·
    replace hS := it_t h6 hS
    refine VC.seq ?_
    refine VC.region ?_
    refine VL.q (q_assign rfl) (by decide) ?_
    refine VL.to (fun _ _ h => h) ?_
    cases hS
    exact VC.ret (fin1 (.inr rfl) rfl rfl () rfl trivial (fun _ _ => trivial) (fun _ _ => trivial))
  ·
    replace hS := it_f h6 hS
    refine VC.skip_to (fun _ _ h => h) ?_
    refine VC.seq ?_
    refine VC.seq ?_
    refine VC.region ?_
    refine VL.q (q_assign rfl) (by decide) ?_
    refine VL.to (fun _ _ h => h) ?_
    refine VC.block ?_
    refine VC.iter (S := Int) (fun (i3_1 : Int) => i3_1) (fun (i3_1 : Int) => [(0, l_0.val), (3, i64 i3_1)]) (fun (i3_1 : Int) => Mo.tt) (fun (i3_1 : Int) => Ow.emp) 0 [0, 3] hS rfl ?_
    clear hS
    rintro i3_1 m1 y1 hS hK1
    show VC _ _ _ _ _ [(0, l_0.val), (3, i64 i3_1)] (Mo.and Mo.tt _) (Ow.emp)
    refine VC.seq ?_
    refine VC.seq ?_
    refine VC.region ?_
    refine VL.q (q_move rfl) (by decide) ?_
    refine VL.q (q_move rfl) (by decide) ?_
    refine VL.q (q_ln (s := l_0) Tryz.underlying41 rfl) (by decide) ?_
    refine VL.q (q_lss rfl rfl) (by decide) ?_
    refine VL.to (fun _ _ h => h) ?_
    refine VC.cond_dec rfl (fun h10 => ?_) (fun h10 => ?_)
    ·
      replace hS := it_t h10 hS
      refine VC.skip_to (fun _ _ h => h) ?_
      refine VC.seq ?_
      refine VC.block ?_
      refine VC.cutJ (S := Bool) (fun (x28_2 : Bool) => x28_2) (fun (x28_2 : Bool) => [(0, l_0.val), (3, i64 i3_1), (28, .bool x28_2)]) (fun (x28_2 : Bool) => Mo.tt) (fun (x28_2 : Bool) => Ow.emp) hS ?_ ?_
      · -- up to where ways meet
        clear hS
        intro k3 hS
        refine VC.region ?_
        refine VL.q (q_move rfl) (by decide) ?_
        refine VL.q (q_move rfl) (by decide) ?_
        obtain ⟨z15_4, nz15_4, hz15_4, hS⟩ := at_s hS
        refine VL.q (q_ixm (s := l_0) Tryz.underlying41 gsz49 rfl rfl nz15_4 (lt_of_get nz15_4 hz15_4)) (by decide) ?_
        refine VL.q (q_field gfa49_0 rfl) (by decide) ?_
        refine VL.q (q_elf (s := l_0) gone9 rfl hz15_4 rfl) (by decide) ?_
        refine VL.q (q_slen Tryz.underlying9 rfl) (by decide) ?_
        refine VL.q (q_gtr rfl rfl) (by decide) ?_
        refine VL.q (q_move rfl) (by decide) ?_
        refine VL.split_dec 20 rfl (fun h20 => ?_) (fun h20 => ?_)
        ·
          replace hS := it_t h20 hS
          refine VL.gn rfl rfl rfl (by decide) ?_
          refine VL.gn rfl rfl rfl (by decide) ?_
          refine VL.gn rfl rfl rfl (by decide) ?_
          refine VL.gn rfl rfl rfl (by decide) ?_
          refine VL.gn rfl rfl rfl (by decide) ?_
          refine VL.gn rfl rfl rfl (by decide) ?_
          refine VL.gn rfl rfl rfl (by decide) ?_
          refine VL.q (q_pick_t rfl rfl) (by decide) ?_
          refine VL.mt true [0, 3, 28] (fun _ _ h => h) hS rfl
        ·
          replace hS := it_f h20 hS
          refine VL.gy rfl rfl (q_move rfl) (by decide) ?_
          refine VL.gy rfl rfl (q_move rfl) (by decide) ?_
          obtain ⟨z23_5, nz23_5, hz23_5, hS⟩ := at_s hS
          refine VL.gy rfl rfl (q_ixm (s := l_0) Tryz.underlying41 gsz49 rfl rfl nz23_5 (lt_of_get nz23_5 hz23_5)) (by decide) ?_
          refine VL.gy rfl rfl (q_field gfa49_3 rfl) (by decide) ?_
          refine VL.gy rfl rfl (q_elf (s := l_0) gone9 rfl hz23_5 rfl) (by decide) ?_
          refine VL.gy rfl rfl (q_slen Tryz.underlying9 rfl) (by decide) ?_
          refine VL.gy rfl rfl (q_gtr rfl rfl) (by decide) ?_
          refine VL.q (q_pick_f rfl rfl) (by decide) ?_
          refine VL.mt (decide (5000 < (z23_5.data.length : Int))) [0, 3, 28] (fun _ _ h => h) hS rfl
      · -- from there
        clear hS
        rintro x28_2 hS
        show VC _ _ _ _ _ [(0, l_0.val), (3, i64 i3_1), (28, .bool x28_2)] (Mo.and Mo.tt _) (Ow.emp)
        refine VC.cond rfl (fun h28 => ?_) (fun h28 => ?_)
        ·
          replace hS := it_t h28 hS
          refine VC.seq ?_
          refine VC.region ?_
          refine VL.q (q_assign rfl) (by decide) ?_
          refine VL.to (fun _ _ h => h) ?_
          replace hS := up2 hS hK1
          cases hS
          exact VC.ret (fin1 (.inr rfl) rfl rfl () rfl trivial (fun _ _ => trivial) (fun _ _ => trivial))
        ·
          replace hS := it_b h28 hS
          refine VC.skip_to (fun _ _ h => h) ?_
          refine VC.region ?_
          refine VL.q (q_move rfl) (by decide) ?_
          obtain ⟨b12, hS⟩ := gd_s hS
          refine VL.q (q_add rfl rfl b12) (by decide) ?_
          refine VL.q (q_assign rfl) (by decide) ?_
          refine VL.rnd (i3_1 + 1) [0, 3] (fun _ _ h => h) (go2 hS hK1) rfl
    ·
      replace hS := it_f h10 hS
      replace hS := up2 hS hK1
      refine VC.exit_to (fun _ _ h => h) ?_
      refine VC.seq ?_
      refine VC.region ?_
      refine VL.q (q_assign rfl) (by decide) ?_
      refine VL.to (fun _ _ h => h) ?_
      cases hS
      exact VC.ret (fin1 (.inr rfl) rfl rfl () rfl trivial (fun _ _ => trivial) (fun _ _ => trivial))

set_option maxHeartbeats 4000000 in
set_option maxRecDepth 100000 in
theorem rectolaw15_Of_ct (l_0 : Sv IndexEntry) {r : List Rectoref14Entry} (hS : Sh.rectolaw15_Of l_0.l = some r) :
    Ct Tryz.prog 15 [l_0.val] l_0.ok (Ow.emp) (X := Sv Rectoref14Entry) (fun x => x.val) (fun x => r = x.l) (fun x => Mo.tt) (fun x => Sv.own x 51) := by
  refine Ct.of Tryz.func15 rfl (by kernel_rfl) Tryz.ntmps15 (by simp) fun c => ?_
  unfold Sh.rectolaw15_Of at hS
  refine VC.seq ?_
  refine VC.region ?_
  refine VL.q (q_assign rfl) (by decide) ?_
  refine VL.to (fun _ _ h => h) ?_
  refine VC.seq ?_
  refine VC.region ?_
  refine VL.q (q_assign rfl) (by decide) ?_
  refine VL.to (fun _ _ h => h) ?_
  refine VC.seq ?_
  refine VC.seq ?_
  refine VC.region ?_
  refine VL.q (q_assign rfl) (by decide) ?_
  refine VL.to (fun _ _ h => h) ?_
  refine VC.block ?_
  refine VC.nilO (⟨none, 0, []⟩ : Sv Rectoref14Entry) 51 ⟨rfl, rfl⟩ ?_
  refine VC.iter (S := Sv Rectoref14Entry × Int) (fun sg => (sg.1.l, sg.2)) (fun sg => [(0, l_0.val), (3, sg.1.val), (4, i64 sg.2)]) (fun sg => Mo.tt) (fun sg => Ow.star (Sv.own sg.1 51) (Ow.emp)) (⟨none, 0, []⟩, 0) [0, 3, 4] hS rfl ?_
  clear hS
  rintro ⟨out3_1, i4_2⟩ m1 y1 hS hK1
  show VC _ _ _ _ _ [(0, l_0.val), (3, out3_1.val), (4, i64 i4_2)] (Mo.and Mo.tt _) (Ow.star (Sv.own out3_1 51) (Ow.emp))
  refine VC.seq ?_
  refine VC.seq ?_
  refine VC.region ?_
  refine VL.q (q_move rfl) (by decide) ?_
  refine VL.q (q_move rfl) (by decide) ?_
  refine VL.q (q_ln (s := l_0) Tryz.underlying41 rfl) (by decide) ?_
  refine VL.q (q_lss rfl rfl) (by decide) ?_
  refine VL.to (fun _ _ h => h) ?_
  refine VC.cond_dec rfl (fun h9 => ?_) (fun h9 => ?_)
  ·
    replace hS := it_t h9 hS
    refine VC.skip_to (fun _ _ h => h) ?_
    refine VC.seq ?_
    refine VC.block ?_
    refine VC.seq ?_
    refine VC.region ?_
    refine VL.q (q_move rfl) (by decide) ?_
    refine VL.q (q_move rfl) (by decide) ?_
    obtain ⟨z14_3, nz14_3, hz14_3, hS⟩ := at_s hS
    refine VL.q (q_ixm (s := l_0) Tryz.underlying41 gsz49 rfl rfl nz14_3 (lt_of_get nz14_3 hz14_3)) (by decide) ?_
    refine VL.q (q_els (s := l_0) gagg49 rfl rfl hz14_3) (by decide) ?_
    refine VL.alloc (cs := [str [], i64 0, i64 0, str [], i64 0, i64 0]) (by kernel_rfl) (by decide) fun b5_4 => ?_
    refine VL.store (vc := [str z14_3.path, i64 z14_3.stage, i64 z14_3.mode, str z14_3.data, i64 z14_3.time, i64 z14_3.size]) (cs' := [str z14_3.path, i64 z14_3.stage, i64 z14_3.mode, str z14_3.data, i64 z14_3.time, i64 z14_3.size]) rfl rfl rfl gsz49 rfl rfl (Nat.le_of_ble_eq_true rfl) rfl ?_
    refine VL.to (fun _ _ h => h) ?_
    refine VC.keep [0, 3, 4, 5] rfl ?_
    refine VC.region ?_
    refine VL.q (q_move rfl) (by decide) ?_
    refine VL.q (q_field gfa49_0 rfl) (by decide) ?_
    refine VL.q (q_fe gone9 rfl rfl) (by decide) ?_
    refine VL.q (q_field gfa49_1 rfl) (by decide) ?_
    refine VL.q (q_fe gone3 rfl rfl) (by decide) ?_
    refine VL.q (q_field gfa49_2 rfl) (by decide) ?_
    refine VL.q (q_fe gone3 rfl rfl) (by decide) ?_
    refine VL.q (q_field gfa49_3 rfl) (by decide) ?_
    refine VL.q (q_fe gone9 rfl rfl) (by decide) ?_
    refine VL.q (q_field gfa49_4 rfl) (by decide) ?_
    refine VL.q (q_fe gone3 rfl rfl) (by decide) ?_
    refine VL.q (q_field gfa49_5 rfl) (by decide) ?_
    refine VL.q (q_fe gone3 rfl rfl) (by decide) ?_
    refine VL.q (q_build (vs := [(0, str z14_3.path), (1, i64 z14_3.stage), (2, i64 z14_3.mode), (3, str z14_3.data), (4, i64 z14_3.time), (5, i64 z14_3.size)]) (cs := #[str z14_3.path, i64 z14_3.stage, i64 z14_3.mode, str z14_3.data, i64 z14_3.time, i64 z14_3.size]) rfl (by kernel_rfl)) (by decide) ?_
    refine VL.lit (α := Rectoref14Entry) (xs := [.tmp 29]) (vs := [.agg #[str z14_3.path, i64 z14_3.stage, i64 z14_3.mode, str z14_3.data, i64 z14_3.time, i64 z14_3.size]]) [⟨z14_3.path, z14_3.stage, z14_3.mode, z14_3.data, z14_3.time, z14_3.size⟩] Tryz.underlying44 glit51 (by decide) rfl rfl rfl rfl (by decide) (fun _ _ _ _ => trivial) (by decide) (fun s30_5 hs30_5 => ?_) (by decide)
    replace hS := lt_to hs30_5 hS
    obtain ⟨b31, hS⟩ := gd_s hS
    refine VL.app (s := out3_1) (r := s30_5) Tryz.underlying44 gapp51 (by decide) rfl Fo.out (ap1 b31) (ap2 b31 (by decide)) (by decide) (fun s31_7 hs31_7 => ?_)
    replace hS := lt_to hs31_7 hS
    refine VL.q (q_assign rfl) (by decide) ?_
    refine VL.to (fun _ _ h => h) ?_
    refine VC.keep [0, 3, 4] rfl ?_
    refine VC.region ?_
    refine VL.q (q_move rfl) (by decide) ?_
    obtain ⟨b11, hS⟩ := gd_s hS
    refine VL.q (q_add rfl rfl b11) (by decide) ?_
    refine VL.q (q_assign rfl) (by decide) ?_
    refine VL.rnd (s31_7, (i4_2 + 1)) [0, 3, 4] (fun _ _ h => h) (go2 hS hK1) rfl
  ·
    replace hS := it_f h9 hS
    replace hS := up2 hS hK1
    refine VC.exit_to (fun _ _ h => h) ?_
    refine VC.seq ?_
    refine VC.region ?_
    refine VL.q (q_move rfl) (by decide) ?_
    refine VL.q (q_assign rfl) (by decide) ?_
    refine VL.to (fun _ _ h => h) ?_
    cases hS
    exact VC.ret (fin1 (.inr rfl) rfl rfl out3_1 rfl rfl (by (try dsimp only); exact InM.out) (by (try dsimp only); exact EntO.out))

set_option maxHeartbeats 4000000 in
set_option maxRecDepth 100000 in
theorem rectoref3_At_ct (word_0 : Str) (at_1 : Int) (e_2 : Int) {r : Rectoref3WrongP} (hS : Sh.rectoref3_At word_0 at_1 e_2 = some r) :
    Ct Tryz.prog 9 [str word_0, i64 at_1, i64 e_2] Mo.tt (Ow.emp) (X := Rectoref3Wrong) (fun x => .agg (Dat.enc x).toArray) (fun x => r = x.pl) (fun x => x.m) (fun x => Ow.emp) := by
  refine Ct.of Tryz.func9 rfl (by kernel_rfl) Tryz.ntmps9 (by simp) fun c => ?_
  unfold Sh.rectoref3_At at hS
  refine VC.seq ?_
  refine VC.region ?_
  refine VL.alloc (cs := [.slice none 0 0, i64 0]) (by kernel_rfl) (by decide) fun b6_1 => ?_
  refine VL.to (fun _ _ h => h) ?_
  refine VC.seq ?_
  refine VC.region ?_
  refine VL.q (q_move rfl) (by decide) ?_
  refine VL.q (q_move rfl) (by decide) ?_
  refine VL.q (q_build (vs := [(0, str word_0), (1, i64 at_1)]) (cs := #[str word_0, i64 at_1]) rfl (by kernel_rfl)) (by decide) ?_
  refine VL.lit (α := Rectoref3Part) (xs := [.tmp 9]) (vs := [.agg #[str word_0, i64 at_1]]) [⟨word_0, at_1⟩] Tryz.underlying32 glit95 (by decide) rfl rfl rfl rfl (by decide) (fun _ _ _ _ => trivial) (by decide) (fun s10_2 hs10_2 => ?_) (by decide)
  replace hS := lt_to hs10_2 hS
  refine VL.q (q_move rfl) (by decide) ?_
  refine VL.q (q_build (vs := [(0, s10_2.val), (1, i64 e_2)]) (cs := #[s10_2.val, i64 e_2]) rfl (by kernel_rfl)) (by decide) ?_
  refine VL.store (vc := [s10_2.val, i64 e_2]) (cs' := [s10_2.val, i64 e_2]) rfl rfl rfl gsz34 rfl rfl (Nat.le_of_ble_eq_true rfl) rfl ?_
  refine VL.to (fun _ _ h => h) ?_
  cases hS
  exact VC.ret (finG (vs := [.agg #[s10_2.val, i64 e_2]]) (.inr rfl) rfl (RVs.cell gagg34 rfl rfl Rd.blk (RVs.nil)) ⟨s10_2, e_2⟩ rfl rfl (by (try dsimp only); exact InM.out) (fun _ _ => trivial))

set_option maxHeartbeats 4000000 in
set_option maxRecDepth 100000 in
theorem rectoref1_Parts_ct (p_0 : Str) {r : List Str} (hS : Sh.rectoref1_Parts p_0 = some r) :
    Ct Tryz.prog 187 [str p_0] Mo.tt (Ow.emp) (X := Sv Str) (fun x => x.val) (fun x => r = x.l) (fun x => Mo.tt) (fun x => Sv.own x 9) := by
  refine Ct.of Tryz.func187 rfl (by kernel_rfl) Tryz.ntmps187 (by simp) fun c => ?_
  unfold Sh.rectoref1_Parts at hS
  refine VC.seq ?_
  refine VC.region ?_
  refine VL.q (q_assign rfl) (by decide) ?_
  refine VL.to (fun _ _ h => h) ?_
  refine VC.seq ?_
  refine VC.seq ?_
  refine VC.region ?_
  refine VL.q (q_move rfl) (by decide) ?_
  refine VL.q (q_seq rfl rfl) (by decide) ?_
  refine VL.to (fun _ _ h => h) ?_
  refine VC.cond_dec rfl (fun h6 => ?_) (fun h6 => ?_)
  ·
    replace hS := it_t h6 hS
    refine VC.seq ?_
    refine VC.region ?_
    refine VL.q (q_assign rfl) (by decide) ?_
    refine VL.to (fun _ _ h => h) ?_
    refine VC.nilO (⟨none, 0, []⟩ : Sv Str) 9 ⟨rfl, rfl⟩ ?_
    cases hS
    exact VC.ret (fin1 (.inr rfl) rfl rfl ⟨none, 0, []⟩ rfl rfl (by (try dsimp only); exact InM.out) (by (try dsimp only); exact EntO.out))
  ·
    replace hS := it_f h6 hS
    refine VC.skip_to (fun _ _ h => h) ?_
    refine VC.seq ?_
    refine VC.region ?_
    refine VL.litO (α := Str) (xs := [.const (str [])]) (vs := [str []]) [[]] Tryz.underlying42 glit9 (by decide) rfl rfl rfl rfl (by decide) (by decide) (fun s7_1 hs7_1 => ?_) (by decide)
    replace hS := lt_to hs7_1 hS
    refine VL.q (q_assign rfl) (by decide) ?_
    refine VL.to (fun _ _ h => h) ?_
    refine VC.seq ?_
    refine VC.seq ?_
    refine VC.region ?_
    refine VL.q (q_assign rfl) (by decide) ?_
    refine VL.to (fun _ _ h => h) ?_
    refine VC.block ?_
    refine VC.iter (S := Sv Str × Int) (fun sg => (sg.1.l, sg.2)) (fun sg => [(0, str p_0), (3, sg.1.val), (4, i64 sg.2)]) (fun sg => Mo.tt) (fun sg => Ow.star (Sv.own sg.1 9) (Ow.emp)) (s7_1, 0) [0, 3, 4] hS rfl ?_
    clear hS
    rintro ⟨out3_3, i4_4⟩ m1 y1 hS hK1
    show VC _ _ _ _ _ [(0, str p_0), (3, out3_3.val), (4, i64 i4_4)] (Mo.and Mo.tt _) (Ow.star (Sv.own out3_3 9) (Ow.emp))
    refine VC.seq ?_
    refine VC.seq ?_
    refine VC.region ?_
    refine VL.q (q_move rfl) (by decide) ?_
    refine VL.q (q_move rfl) (by decide) ?_
    refine VL.q (q_slen Tryz.underlying9 rfl) (by decide) ?_
    refine VL.q (q_lss rfl rfl) (by decide) ?_
    refine VL.to (fun _ _ h => h) ?_
    refine VC.cond_dec rfl (fun h11 => ?_) (fun h11 => ?_)
    ·
      replace hS := it_t h11 hS
      refine VC.skip_to (fun _ _ h => h) ?_
      refine VC.cutJ (S := Sv Str) (fun (out3_5 : Sv Str) => out3_5.l) (fun (out3_5 : Sv Str) => [(0, str p_0), (3, out3_5.val), (4, i64 i4_4)]) (fun (out3_5 : Sv Str) => Mo.tt) (fun (out3_5 : Sv Str) => Ow.star (Sv.own out3_5 9) (Ow.emp)) hS ?_ ?_
      · -- up to where ways meet
        clear hS
        intro k6 hS
        refine VC.block ?_
        refine VC.seq ?_
        refine VC.seq ?_
        refine VC.region ?_
        refine VL.q (q_move rfl) (by decide) ?_
        refine VL.q (q_move rfl) (by decide) ?_
        obtain ⟨z16_7, nz16_7, hz16_7, hS⟩ := at_s hS
        refine VL.q (q_sidx Tryz.underlying9 rfl rfl nz16_7 hz16_7) (by decide) ?_
        refine VL.q (q_eql rfl rfl) (by decide) ?_
        refine VL.to (fun _ _ h => h) ?_
        refine VC.keep [0, 3, 4, 17] rfl ?_
        refine VC.cond_dec rfl (fun h17 => ?_) (fun h17 => ?_)
        ·
          replace hS := it_t h17 hS
          refine VC.seq ?_
          refine VC.region ?_
          refine VL.q (q_move rfl) (by decide) ?_
          refine VL.lit (α := Str) (xs := [.const (str [])]) (vs := [str []]) [[]] Tryz.underlying42 glit9 (by decide) rfl rfl rfl rfl (by decide) (fun _ _ _ _ => trivial) (by decide) (fun s19_8 hs19_8 => ?_) (by decide)
          replace hS := lt_to hs19_8 hS
          obtain ⟨b20, hS⟩ := gd_s hS
          refine VL.app (s := out3_3) (r := s19_8) Tryz.underlying42 gapp9 (by decide) rfl Fo.out (ap1 b20) (ap2 b20 (by decide)) (by decide) (fun s20_10 hs20_10 => ?_)
          replace hS := lt_to hs20_10 hS
          refine VL.q (q_assign rfl) (by decide) ?_
          refine VL.to (fun _ _ h => h) ?_
          refine VC.exit_mt s20_10 [0, 3, 4] (fun _ _ h => h) hS rfl
        ·
          replace hS := it_f h17 hS
          refine VC.skip_to (fun _ _ h => h) ?_
          refine VC.draw [(0, true), (1, true), (2, true), (3, true), (4, true), (5, true), (6, true), (7, true), (8, true), (9, true), (10, true), (11, true), (12, true), (13, true), (14, true), (15, true), (16, true), (17, false)] mixed (by kernel_rfl) (by kernel_rfl) (by kernel_rfl) ?_
          refine VD.q rfl (q_move rfl) (by decide) ?_
          refine VD.q rfl (q_move rfl) (by decide) ?_
          refine VD.q rfl (q_ln (s := out3_3) Tryz.underlying42 rfl) (by decide) ?_
          obtain ⟨b24, hS⟩ := gd_s hS
          refine VD.q rfl (q_sub rfl rfl b24) (by decide) ?_
          refine VD.q rfl (q_move rfl) (by decide) ?_
          refine VD.q rfl (q_move rfl) (by decide) ?_
          refine VD.q rfl (q_ln (s := out3_3) Tryz.underlying42 rfl) (by decide) ?_
          obtain ⟨b28, hS⟩ := gd_s hS
          refine VD.q rfl (q_sub rfl rfl b28) (by decide) ?_
          obtain ⟨z29_12, nz29_12, hz29_12, hS⟩ := at_s hS
          refine VD.q rfl (q_ixo (s := out3_3) Tryz.underlying42 gsz9 rfl rfl nz29_12 (lt_of_get nz29_12 hz29_12)) (by decide) ?_
          refine VD.q rfl (q_elo (s := out3_3) 9 gone9 rfl hz29_12 rfl) (by decide) ?_
          refine VD.q rfl (q_move rfl) (by decide) ?_
          refine VD.q rfl (q_move rfl) (by decide) ?_
          refine VD.q rfl (q_move rfl) (by decide) ?_
          obtain ⟨b34, hS⟩ := gd_s hS
          refine VD.q rfl (q_add rfl rfl b34) (by decide) ?_
          obtain ⟨b35, hS⟩ := gd_s hS
          obtain ⟨y35_13, ey35_13, hS⟩ := lt_s hS
          refine VD.q rfl (q_smidE Tryz.underlying9 rfl rfl rfl b35.1 b35.2.1 b35.2.2 ey35_13) (by decide) ?_
          obtain ⟨b36, hS⟩ := gd_s hS
          obtain ⟨y36_14, ey36_14, hS⟩ := lt_s hS
          refine VD.q rfl (q_catE rfl rfl b36 ey36_14) (by decide) ?_
          obtain ⟨z37_15, nz37_15, hz37_15, hS⟩ := at_s hS
          refine VD.q rfl (q_ixo (s := out3_3) Tryz.underlying42 gsz9 rfl rfl nz37_15 (lt_of_get nz37_15 hz37_15)) (by decide) ?_
          refine VD.one rfl ?_
          refine VL.storeE (s := out3_3) (T := 9) (j := 0) (vc := [str y36_14]) (y36_14 : Str) (by decide) rfl rfl hz37_15 rfl gsz9 rfl rfl (Nat.le_of_ble_eq_true rfl) rfl (fun w16 hw16 haw16 hcw16 hvw16 hbw16 how16 => ?_)
          rw [← hvw16]
          replace hS := lt_to hw16 hS
          refine VL.back (D' := []) (by kernel_rfl) (Pend.nil) ?_
          refine VD.mt w16 [0, 3, 4] (fun _ _ h => h) hS rfl
      · -- from there
        clear hS
        rintro out3_5 hS
        show VC _ _ _ _ _ [(0, str p_0), (3, out3_5.val), (4, i64 i4_4)] (Mo.and Mo.tt _) (Ow.star (Sv.own out3_5 9) (Ow.emp))
        refine VC.region ?_
        refine VL.q (q_move rfl) (by decide) ?_
        obtain ⟨b13, hS⟩ := gd_s hS
        refine VL.q (q_add rfl rfl b13) (by decide) ?_
        refine VL.q (q_assign rfl) (by decide) ?_
        refine VL.rnd (out3_5, (i4_4 + 1)) [0, 3, 4] (fun _ _ h => h) (go2 hS hK1) rfl
    ·
      replace hS := it_f h11 hS
      replace hS := up2 hS hK1
      refine VC.exit_to (fun _ _ h => h) ?_
      refine VC.seq ?_
      refine VC.region ?_
      refine VL.q (q_move rfl) (by decide) ?_
      refine VL.q (q_assign rfl) (by decide) ?_
      refine VL.to (fun _ _ h => h) ?_
      cases hS
      exact VC.ret (fin1 (.inr rfl) rfl rfl out3_3 rfl rfl (by (try dsimp only); exact InM.out) (by (try dsimp only); exact EntO.out))

set_option maxHeartbeats 4000000 in
set_option maxRecDepth 100000 in
theorem rectoref1_good_ct (c_0 : Int) {r : Bool} (hS : Sh.rectoref1_good c_0 = some r) :
    Ct Tryz.prog 188 [.int .u8 c_0] Mo.tt (Ow.emp) (X := Unit) (fun _ => .bool r) (fun _ => True) (fun _ => Mo.tt) (fun _ => Ow.emp) := by
  refine Ct.of Tryz.func188 rfl (by kernel_rfl) Tryz.ntmps188 (by simp) fun c => ?_
  unfold Sh.rectoref1_good at hS
  refine VC.seq ?_
  refine VC.region ?_
  refine VL.q (q_assign rfl) (by decide) ?_
  refine VL.to (fun _ _ h => h) ?_
  refine VC.seq ?_
  refine VC.region ?_
  refine VL.q (q_move rfl) (by decide) ?_
  refine VL.q (q_geq rfl rfl) (by decide) ?_
  refine VL.q (q_move rfl) (by decide) ?_
  refine VL.split_dec 5 rfl (fun h5 => ?_) (fun h5 => ?_)
  ·
    replace hS := it_t h5 hS
    refine VL.gy rfl rfl (q_move rfl) (by decide) ?_
    refine VL.gy rfl rfl (q_leq rfl rfl) (by decide) ?_
    refine VL.q (q_pick_t rfl rfl) (by decide) ?_
    refine VL.q (q_move rfl) (by decide) ?_
    refine VL.split_dec 9 rfl (fun h9 => ?_) (fun h9 => ?_)
    ·
      replace hS := it_t h9 hS
      refine VL.gn rfl rfl rfl (by decide) ?_
      refine VL.gn rfl rfl rfl (by decide) ?_
      refine VL.gn rfl rfl rfl (by decide) ?_
      refine VL.gu rfl rfl (by decide) ?_
      refine VL.gu rfl rfl (by decide) ?_
      refine VL.gn rfl rfl rfl (by decide) ?_
      refine VL.q (q_pick_t rfl rfl) (by decide) ?_
      refine VL.q (q_move rfl) (by decide) ?_
      refine VL.gn rfl rfl rfl (by decide) ?_
      refine VL.gn rfl rfl rfl (by decide) ?_
      refine VL.q (q_pick_t rfl rfl) (by decide) ?_
      refine VL.q (q_move rfl) (by decide) ?_
      refine VL.gn rfl rfl rfl (by decide) ?_
      refine VL.gn rfl rfl rfl (by decide) ?_
      refine VL.q (q_pick_t rfl rfl) (by decide) ?_
      refine VL.q (q_move rfl) (by decide) ?_
      refine VL.gn rfl rfl rfl (by decide) ?_
      refine VL.gn rfl rfl rfl (by decide) ?_
      refine VL.q (q_pick_t rfl rfl) (by decide) ?_
      refine VL.q (q_assign rfl) (by decide) ?_
      refine VL.to (fun _ _ h => h) ?_
      refine VC.keep [2] rfl ?_
      cases hS
      exact VC.ret (fin1 (.inr rfl) rfl rfl () rfl trivial (fun _ _ => trivial) (fun _ _ => trivial))
    ·
      replace hS := it_f h9 hS
      refine VL.gy rfl rfl (q_move rfl) (by decide) ?_
      refine VL.gy rfl rfl (q_geq rfl rfl) (by decide) ?_
      refine VL.gy rfl rfl (q_move rfl) (by decide) ?_
      refine VL.split_dec 12 rfl (fun h12 => ?_) (fun h12 => ?_)
      ·
        replace hS := it_t h12 hS
        refine VL.gy rfl rfl (q_move rfl) (by decide) ?_
        refine VL.gy rfl rfl (q_leq rfl rfl) (by decide) ?_
        refine VL.gy rfl rfl (q_pick_t rfl rfl) (by decide) ?_
        refine VL.q (q_pick_f rfl rfl) (by decide) ?_
        refine VL.q (q_move rfl) (by decide) ?_
        refine VL.split_dec 17 rfl (fun h17 => ?_) (fun h17 => ?_)
        ·
          replace hS := it_t h17 hS
          refine VL.gn rfl rfl rfl (by decide) ?_
          refine VL.gn rfl rfl rfl (by decide) ?_
          refine VL.q (q_pick_t rfl rfl) (by decide) ?_
          refine VL.q (q_move rfl) (by decide) ?_
          refine VL.gn rfl rfl rfl (by decide) ?_
          refine VL.gn rfl rfl rfl (by decide) ?_
          refine VL.q (q_pick_t rfl rfl) (by decide) ?_
          refine VL.q (q_move rfl) (by decide) ?_
          refine VL.gn rfl rfl rfl (by decide) ?_
          refine VL.gn rfl rfl rfl (by decide) ?_
          refine VL.q (q_pick_t rfl rfl) (by decide) ?_
          refine VL.q (q_assign rfl) (by decide) ?_
          refine VL.to (fun _ _ h => h) ?_
          refine VC.keep [2] rfl ?_
          cases hS
          exact VC.ret (fin1 (.inr rfl) rfl rfl () rfl trivial (fun _ _ => trivial) (fun _ _ => trivial))
        ·
          replace hS := it_f h17 hS
          refine VL.gy rfl rfl (q_move rfl) (by decide) ?_
          refine VL.gy rfl rfl (q_eql rfl rfl) (by decide) ?_
          refine VL.q (q_pick_f rfl rfl) (by decide) ?_
          refine VL.q (q_move rfl) (by decide) ?_
          refine VL.split_dec 21 rfl (fun h21 => ?_) (fun h21 => ?_)
          ·
            replace hS := it_t h21 hS
            refine VL.gn rfl rfl rfl (by decide) ?_
            refine VL.gn rfl rfl rfl (by decide) ?_
            refine VL.q (q_pick_t rfl rfl) (by decide) ?_
            refine VL.q (q_move rfl) (by decide) ?_
            refine VL.gn rfl rfl rfl (by decide) ?_
            refine VL.gn rfl rfl rfl (by decide) ?_
            refine VL.q (q_pick_t rfl rfl) (by decide) ?_
            refine VL.q (q_assign rfl) (by decide) ?_
            refine VL.to (fun _ _ h => h) ?_
            refine VC.keep [2] rfl ?_
            cases hS
            exact VC.ret (fin1 (.inr rfl) rfl rfl () rfl trivial (fun _ _ => trivial) (fun _ _ => trivial))
          ·
            replace hS := it_f h21 hS
            refine VL.gy rfl rfl (q_move rfl) (by decide) ?_
            refine VL.gy rfl rfl (q_eql rfl rfl) (by decide) ?_
            refine VL.q (q_pick_f rfl rfl) (by decide) ?_
            refine VL.q (q_move rfl) (by decide) ?_
            refine VL.split_dec 25 rfl (fun h25 => ?_) (fun h25 => ?_)
            ·
              replace hS := it_t h25 hS
              refine VL.gn rfl rfl rfl (by decide) ?_
              refine VL.gn rfl rfl rfl (by decide) ?_
              refine VL.q (q_pick_t rfl rfl) (by decide) ?_
              refine VL.q (q_assign rfl) (by decide) ?_
              refine VL.to (fun _ _ h => h) ?_
              refine VC.keep [2] rfl ?_
              cases hS
              exact VC.ret (fin1 (.inr rfl) rfl rfl () rfl trivial (fun _ _ => trivial) (fun _ _ => trivial))
            ·
              replace hS := it_f h25 hS
              refine VL.gy rfl rfl (q_move rfl) (by decide) ?_
              refine VL.gy rfl rfl (q_eql rfl rfl) (by decide) ?_
              refine VL.q (q_pick_f rfl rfl) (by decide) ?_
              refine VL.q (q_assign rfl) (by decide) ?_
              refine VL.to (fun _ _ h => h) ?_
              refine VC.keep [2] rfl ?_
              cases hS
              exact VC.ret (fin1 (.inr rfl) rfl rfl () rfl trivial (fun _ _ => trivial) (fun _ _ => trivial))
      ·
        replace hS := it_f h12 hS
        refine VL.gn rfl rfl rfl (by decide) ?_
        refine VL.gn rfl rfl rfl (by decide) ?_
        refine VL.gy rfl rfl (q_pick_f rfl rfl) (by decide) ?_
        refine VL.q (q_pick_f rfl rfl) (by decide) ?_
        refine VL.q (q_move rfl) (by decide) ?_
        refine VL.gy rfl rfl (q_move rfl) (by decide) ?_
        refine VL.gy rfl rfl (q_eql rfl rfl) (by decide) ?_
        refine VL.q (q_pick_f rfl rfl) (by decide) ?_
        refine VL.q (q_move rfl) (by decide) ?_
        refine VL.split_dec 21 rfl (fun h21 => ?_) (fun h21 => ?_)
        ·
          replace hS := it_t h21 hS
          refine VL.gn rfl rfl rfl (by decide) ?_
          refine VL.gn rfl rfl rfl (by decide) ?_
          refine VL.q (q_pick_t rfl rfl) (by decide) ?_
          refine VL.q (q_move rfl) (by decide) ?_
          refine VL.gn rfl rfl rfl (by decide) ?_
          refine VL.gn rfl rfl rfl (by decide) ?_
          refine VL.q (q_pick_t rfl rfl) (by decide) ?_
          refine VL.q (q_assign rfl) (by decide) ?_
          refine VL.to (fun _ _ h => h) ?_
          refine VC.keep [2] rfl ?_
          cases hS
          exact VC.ret (fin1 (.inr rfl) rfl rfl () rfl trivial (fun _ _ => trivial) (fun _ _ => trivial))
        ·
          replace hS := it_f h21 hS
          refine VL.gy rfl rfl (q_move rfl) (by decide) ?_
          refine VL.gy rfl rfl (q_eql rfl rfl) (by decide) ?_
          refine VL.q (q_pick_f rfl rfl) (by decide) ?_
          refine VL.q (q_move rfl) (by decide) ?_
          refine VL.split_dec 25 rfl (fun h25 => ?_) (fun h25 => ?_)
          ·
            replace hS := it_t h25 hS
            refine VL.gn rfl rfl rfl (by decide) ?_
            refine VL.gn rfl rfl rfl (by decide) ?_
            refine VL.q (q_pick_t rfl rfl) (by decide) ?_
            refine VL.q (q_assign rfl) (by decide) ?_
            refine VL.to (fun _ _ h => h) ?_
            refine VC.keep [2] rfl ?_
            cases hS
            exact VC.ret (fin1 (.inr rfl) rfl rfl () rfl trivial (fun _ _ => trivial) (fun _ _ => trivial))
          ·
            replace hS := it_f h25 hS
            refine VL.gy rfl rfl (q_move rfl) (by decide) ?_
            refine VL.gy rfl rfl (q_eql rfl rfl) (by decide) ?_
            refine VL.q (q_pick_f rfl rfl) (by decide) ?_
            refine VL.q (q_assign rfl) (by decide) ?_
            refine VL.to (fun _ _ h => h) ?_
            refine VC.keep [2] rfl ?_
            cases hS
            exact VC.ret (fin1 (.inr rfl) rfl rfl () rfl trivial (fun _ _ => trivial) (fun _ _ => trivial))
  ·
    replace hS := it_f h5 hS
    refine VL.gn rfl rfl rfl (by decide) ?_
    refine VL.gn rfl rfl rfl (by decide) ?_
    refine VL.q (q_pick_f rfl rfl) (by decide) ?_
    refine VL.q (q_move rfl) (by decide) ?_
    refine VL.gy rfl rfl (q_move rfl) (by decide) ?_
    refine VL.gy rfl rfl (q_geq rfl rfl) (by decide) ?_
    refine VL.gy rfl rfl (q_move rfl) (by decide) ?_
    refine VL.split_dec 12 rfl (fun h12 => ?_) (fun h12 => ?_)
    ·
      replace hS := it_t h12 hS
      refine VL.gy rfl rfl (q_move rfl) (by decide) ?_
      refine VL.gy rfl rfl (q_leq rfl rfl) (by decide) ?_
      refine VL.gy rfl rfl (q_pick_t rfl rfl) (by decide) ?_
      refine VL.q (q_pick_f rfl rfl) (by decide) ?_
      refine VL.q (q_move rfl) (by decide) ?_
      refine VL.split_dec 17 rfl (fun h17 => ?_) (fun h17 => ?_)
      ·
        replace hS := it_t h17 hS
        refine VL.gn rfl rfl rfl (by decide) ?_
        refine VL.gn rfl rfl rfl (by decide) ?_
        refine VL.q (q_pick_t rfl rfl) (by decide) ?_
        refine VL.q (q_move rfl) (by decide) ?_
        refine VL.gn rfl rfl rfl (by decide) ?_
        refine VL.gn rfl rfl rfl (by decide) ?_
        refine VL.q (q_pick_t rfl rfl) (by decide) ?_
        refine VL.q (q_move rfl) (by decide) ?_
        refine VL.gn rfl rfl rfl (by decide) ?_
        refine VL.gn rfl rfl rfl (by decide) ?_
        refine VL.q (q_pick_t rfl rfl) (by decide) ?_
        refine VL.q (q_assign rfl) (by decide) ?_
        refine VL.to (fun _ _ h => h) ?_
        refine VC.keep [2] rfl ?_
        cases hS
        exact VC.ret (fin1 (.inr rfl) rfl rfl () rfl trivial (fun _ _ => trivial) (fun _ _ => trivial))
      ·
        replace hS := it_f h17 hS
        refine VL.gy rfl rfl (q_move rfl) (by decide) ?_
        refine VL.gy rfl rfl (q_eql rfl rfl) (by decide) ?_
        refine VL.q (q_pick_f rfl rfl) (by decide) ?_
        refine VL.q (q_move rfl) (by decide) ?_
        refine VL.split_dec 21 rfl (fun h21 => ?_) (fun h21 => ?_)
        ·
          replace hS := it_t h21 hS
          refine VL.gn rfl rfl rfl (by decide) ?_
          refine VL.gn rfl rfl rfl (by decide) ?_
          refine VL.q (q_pick_t rfl rfl) (by decide) ?_
          refine VL.q (q_move rfl) (by decide) ?_
          refine VL.gn rfl rfl rfl (by decide) ?_
          refine VL.gn rfl rfl rfl (by decide) ?_
          refine VL.q (q_pick_t rfl rfl) (by decide) ?_
          refine VL.q (q_assign rfl) (by decide) ?_
          refine VL.to (fun _ _ h => h) ?_
          refine VC.keep [2] rfl ?_
          cases hS
          exact VC.ret (fin1 (.inr rfl) rfl rfl () rfl trivial (fun _ _ => trivial) (fun _ _ => trivial))
        ·
          replace hS := it_f h21 hS
          refine VL.gy rfl rfl (q_move rfl) (by decide) ?_
          refine VL.gy rfl rfl (q_eql rfl rfl) (by decide) ?_
          refine VL.q (q_pick_f rfl rfl) (by decide) ?_
          refine VL.q (q_move rfl) (by decide) ?_
          refine VL.split_dec 25 rfl (fun h25 => ?_) (fun h25 => ?_)
          ·
            replace hS := it_t h25 hS
            refine VL.gn rfl rfl rfl (by decide) ?_
            refine VL.gn rfl rfl rfl (by decide) ?_
            refine VL.q (q_pick_t rfl rfl) (by decide) ?_
            refine VL.q (q_assign rfl) (by decide) ?_
            refine VL.to (fun _ _ h => h) ?_
            refine VC.keep [2] rfl ?_
            cases hS
            exact VC.ret (fin1 (.inr rfl) rfl rfl () rfl trivial (fun _ _ => trivial) (fun _ _ => trivial))
          ·
            replace hS := it_f h25 hS
            refine VL.gy rfl rfl (q_move rfl) (by decide) ?_
            refine VL.gy rfl rfl (q_eql rfl rfl) (by decide) ?_
            refine VL.q (q_pick_f rfl rfl) (by decide) ?_
            refine VL.q (q_assign rfl) (by decide) ?_
            refine VL.to (fun _ _ h => h) ?_
            refine VC.keep [2] rfl ?_
            cases hS
            exact VC.ret (fin1 (.inr rfl) rfl rfl () rfl trivial (fun _ _ => trivial) (fun _ _ => trivial))
    ·
      replace hS := it_f h12 hS
      refine VL.gn rfl rfl rfl (by decide) ?_
      refine VL.gn rfl rfl rfl (by decide) ?_
      refine VL.gy rfl rfl (q_pick_f rfl rfl) (by decide) ?_
      refine VL.q (q_pick_f rfl rfl) (by decide) ?_
      refine VL.q (q_move rfl) (by decide) ?_
      refine VL.gy rfl rfl (q_move rfl) (by decide) ?_
      refine VL.gy rfl rfl (q_eql rfl rfl) (by decide) ?_
      refine VL.q (q_pick_f rfl rfl) (by decide) ?_
      refine VL.q (q_move rfl) (by decide) ?_
      refine VL.split_dec 21 rfl (fun h21 => ?_) (fun h21 => ?_)
      ·
        replace hS := it_t h21 hS
        refine VL.gn rfl rfl rfl (by decide) ?_
        refine VL.gn rfl rfl rfl (by decide) ?_
        refine VL.q (q_pick_t rfl rfl) (by decide) ?_
        refine VL.q (q_move rfl) (by decide) ?_
        refine VL.gn rfl rfl rfl (by decide) ?_
        refine VL.gn rfl rfl rfl (by decide) ?_
        refine VL.q (q_pick_t rfl rfl) (by decide) ?_
        refine VL.q (q_assign rfl) (by decide) ?_
        refine VL.to (fun _ _ h => h) ?_
        refine VC.keep [2] rfl ?_
        cases hS
        exact VC.ret (fin1 (.inr rfl) rfl rfl () rfl trivial (fun _ _ => trivial) (fun _ _ => trivial))
      ·
        replace hS := it_f h21 hS
        refine VL.gy rfl rfl (q_move rfl) (by decide) ?_
        refine VL.gy rfl rfl (q_eql rfl rfl) (by decide) ?_
        refine VL.q (q_pick_f rfl rfl) (by decide) ?_
        refine VL.q (q_move rfl) (by decide) ?_
        refine VL.split_dec 25 rfl (fun h25 => ?_) (fun h25 => ?_)
        ·
          replace hS := it_t h25 hS
          refine VL.gn rfl rfl rfl (by decide) ?_
          refine VL.gn rfl rfl rfl (by decide) ?_
          refine VL.q (q_pick_t rfl rfl) (by decide) ?_
          refine VL.q (q_assign rfl) (by decide) ?_
          refine VL.to (fun _ _ h => h) ?_
          refine VC.keep [2] rfl ?_
          cases hS
          exact VC.ret (fin1 (.inr rfl) rfl rfl () rfl trivial (fun _ _ => trivial) (fun _ _ => trivial))
        ·
          replace hS := it_f h25 hS
          refine VL.gy rfl rfl (q_move rfl) (by decide) ?_
          refine VL.gy rfl rfl (q_eql rfl rfl) (by decide) ?_
          refine VL.q (q_pick_f rfl rfl) (by decide) ?_
          refine VL.q (q_assign rfl) (by decide) ?_
          refine VL.to (fun _ _ h => h) ?_
          refine VC.keep [2] rfl ?_
          cases hS
          exact VC.ret (fin1 (.inr rfl) rfl rfl () rfl trivial (fun _ _ => trivial) (fun _ _ => trivial))

set_option maxHeartbeats 4000000 in
set_option maxRecDepth 100000 in
theorem rectoref1_Check_ct (p_0 : Str) {r : Int} (hS : Sh.rectoref1_Check p_0 = some r) :
    Ct Tryz.prog 129 [str p_0] Mo.tt (Ow.emp) (X := Unit) (fun _ => i64 r) (fun _ => True) (fun _ => Mo.tt) (fun _ => Ow.emp) := by
  refine Ct.of Tryz.func129 rfl (by kernel_rfl) Tryz.ntmps129 (by simp) fun c => ?_
  unfold Sh.rectoref1_Check at hS
  refine VC.seq ?_
  refine VC.region ?_
  refine VL.q (q_assign rfl) (by decide) ?_
  refine VL.to (fun _ _ h => h) ?_
  refine VC.seq ?_
  refine VC.seq ?_
  refine VC.region ?_
  refine VL.q (q_move rfl) (by decide) ?_
  refine VL.q (q_slen Tryz.underlying9 rfl) (by decide) ?_
  refine VL.q (q_gtr rfl rfl) (by decide) ?_
  refine VL.to (fun _ _ h => h) ?_
  refine VC.cond_dec rfl (fun h8 => ?_) (fun h8 => ?_)
  ·
    replace hS := it_t h8 hS
    refine VC.seq ?_
    refine VC.region ?_
    refine VL.q (q_assign rfl) (by decide) ?_
    refine VL.to (fun _ _ h => h) ?_
    cases hS
    exact VC.ret (fin1 (.inr rfl) rfl rfl () rfl trivial (fun _ _ => trivial) (fun _ _ => trivial))
  ·
    replace hS := it_f h8 hS
    refine VC.skip_to (fun _ _ h => h) ?_
    refine VC.seq ?_
    refine VC.region ?_
    refine VL.q (q_move rfl) (by decide) ?_
    obtain ⟨y10_1, ey10_1, hS⟩ := bd_s hS
    refine VL.callO (rectoref1_Parts_ct p_0 ey10_1) rfl (by decide) ?_
    rintro q10_1_0 rfl
    try dsimp only
    refine VL.q (q_assign rfl) (by decide) ?_
    refine VL.to (fun _ _ h => h) ?_
    refine VC.seq ?_
    refine VC.seq ?_
    refine VC.region ?_
    refine VL.q (q_move rfl) (by decide) ?_
    refine VL.q (q_ln (s := q10_1_0) Tryz.underlying42 rfl) (by decide) ?_
    refine VL.q (q_eql rfl rfl) (by decide) ?_
    refine VL.to (fun _ _ h => h) ?_
    refine VC.keep [3, 13] rfl ?_
    refine VC.cond_dec rfl (fun h13 => ?_) (fun h13 => ?_)
    ·
      replace hS := it_t h13 hS
      refine VC.seq ?_
      refine VC.region ?_
      refine VL.q (q_assign rfl) (by decide) ?_
      refine VL.to (fun _ _ h => h) ?_
      cases hS
      exact VC.ret (fin1 (.inr rfl) rfl rfl () rfl trivial (fun _ _ => trivial) (fun _ _ => trivial))
    ·
      replace hS := it_f h13 hS
      refine VC.skip_to (fun _ _ h => h) ?_
      refine VC.seq ?_
      refine VC.seq ?_
      refine VC.region ?_
      refine VL.q (q_assign rfl) (by decide) ?_
      refine VL.to (fun _ _ h => h) ?_
      refine VC.block ?_
      refine VC.iter (S := Int) (fun (i4_2 : Int) => i4_2) (fun (i4_2 : Int) => [(3, q10_1_0.val), (4, i64 i4_2)]) (fun (i4_2 : Int) => Mo.tt) (fun (i4_2 : Int) => Ow.star (Sv.own q10_1_0 9) (Ow.emp)) 0 [3, 4] hS rfl ?_
      clear hS
      rintro i4_2 m1 y1 hS hK1
      show VC _ _ _ _ _ [(3, q10_1_0.val), (4, i64 i4_2)] (Mo.and Mo.tt _) (Ow.star (Sv.own q10_1_0 9) (Ow.emp))
      refine VC.seq ?_
      refine VC.seq ?_
      refine VC.region ?_
      refine VL.q (q_move rfl) (by decide) ?_
      refine VL.q (q_move rfl) (by decide) ?_
      refine VL.q (q_ln (s := q10_1_0) Tryz.underlying42 rfl) (by decide) ?_
      refine VL.q (q_lss rfl rfl) (by decide) ?_
      refine VL.to (fun _ _ h => h) ?_
      refine VC.cond_dec rfl (fun h17 => ?_) (fun h17 => ?_)
      ·
        replace hS := it_t h17 hS
        refine VC.skip_to (fun _ _ h => h) ?_
        refine VC.cutJ (S := Unit) (fun (_ : Unit) => ()) (fun (_ : Unit) => [(3, q10_1_0.val), (4, i64 i4_2)]) (fun (_ : Unit) => Mo.tt) (fun (_ : Unit) => Ow.star (Sv.own q10_1_0 9) (Ow.emp)) hS ?_ ?_
        · -- up to where ways meet
          clear hS
          intro k3 hS
          refine VC.block ?_
          refine VC.seq ?_
          refine VC.cutJ (S := Bool) (fun (x38_4 : Bool) => x38_4) (fun (x38_4 : Bool) => [(3, q10_1_0.val), (4, i64 i4_2), (38, .bool x38_4)]) (fun (x38_4 : Bool) => Mo.tt) (fun (x38_4 : Bool) => Ow.star (Sv.own q10_1_0 9) (Ow.emp)) hS ?_ ?_
          · -- up to where ways meet
            clear hS
            intro k5 hS
            refine VC.region ?_
            refine VL.q (q_move rfl) (by decide) ?_
            refine VL.q (q_move rfl) (by decide) ?_
            obtain ⟨z22_6, nz22_6, hz22_6, hS⟩ := at_s hS
            refine VL.q (q_ixo (s := q10_1_0) Tryz.underlying42 gsz9 rfl rfl nz22_6 (lt_of_get nz22_6 hz22_6)) (by decide) ?_
            refine VL.q (q_elo (s := q10_1_0) 9 gone9 rfl hz22_6 rfl) (by decide) ?_
            refine VL.q (q_seq rfl rfl) (by decide) ?_
            refine VL.q (q_move rfl) (by decide) ?_
            refine VL.split_dec 25 rfl (fun h25 => ?_) (fun h25 => ?_)
            ·
              replace hS := it_t h25 hS
              refine VL.gn rfl rfl rfl (by decide) ?_
              refine VL.gn rfl rfl rfl (by decide) ?_
              refine VL.gn rfl rfl rfl (by decide) ?_
              refine VL.gn rfl rfl rfl (by decide) ?_
              refine VL.gn rfl rfl rfl (by decide) ?_
              refine VL.q (q_pick_t rfl rfl) (by decide) ?_
              refine VL.q (q_move rfl) (by decide) ?_
              refine VL.gn rfl rfl rfl (by decide) ?_
              refine VL.gn rfl rfl rfl (by decide) ?_
              refine VL.gn rfl rfl rfl (by decide) ?_
              refine VL.gn rfl rfl rfl (by decide) ?_
              refine VL.gn rfl rfl rfl (by decide) ?_
              refine VL.q (q_pick_t rfl rfl) (by decide) ?_
              refine VL.mt true [3, 4, 38] (fun _ _ h => h) hS rfl
            ·
              replace hS := it_f h25 hS
              refine VL.gy rfl rfl (q_move rfl) (by decide) ?_
              refine VL.gy rfl rfl (q_move rfl) (by decide) ?_
              obtain ⟨z28_7, nz28_7, hz28_7, hS⟩ := at_s hS
              refine VL.gy rfl rfl (q_ixo (s := q10_1_0) Tryz.underlying42 gsz9 rfl rfl nz28_7 (lt_of_get nz28_7 hz28_7)) (by decide) ?_
              refine VL.gy rfl rfl (q_elo (s := q10_1_0) 9 gone9 rfl hz28_7 rfl) (by decide) ?_
              refine VL.gy rfl rfl (q_seq rfl rfl) (by decide) ?_
              refine VL.q (q_pick_f rfl rfl) (by decide) ?_
              refine VL.q (q_move rfl) (by decide) ?_
              refine VL.split_dec 32 rfl (fun h32 => ?_) (fun h32 => ?_)
              ·
                replace hS := it_t h32 hS
                refine VL.gn rfl rfl rfl (by decide) ?_
                refine VL.gn rfl rfl rfl (by decide) ?_
                refine VL.gn rfl rfl rfl (by decide) ?_
                refine VL.gn rfl rfl rfl (by decide) ?_
                refine VL.gn rfl rfl rfl (by decide) ?_
                refine VL.q (q_pick_t rfl rfl) (by decide) ?_
                refine VL.mt true [3, 4, 38] (fun _ _ h => h) hS rfl
              ·
                replace hS := it_f h32 hS
                refine VL.gy rfl rfl (q_move rfl) (by decide) ?_
                refine VL.gy rfl rfl (q_move rfl) (by decide) ?_
                obtain ⟨z35_8, nz35_8, hz35_8, hS⟩ := at_s hS
                refine VL.gy rfl rfl (q_ixo (s := q10_1_0) Tryz.underlying42 gsz9 rfl rfl nz35_8 (lt_of_get nz35_8 hz35_8)) (by decide) ?_
                refine VL.gy rfl rfl (q_elo (s := q10_1_0) 9 gone9 rfl hz35_8 rfl) (by decide) ?_
                refine VL.gy rfl rfl (q_seq rfl rfl) (by decide) ?_
                refine VL.q (q_pick_f rfl rfl) (by decide) ?_
                refine VL.mt (decide (z35_8 = [46, 46])) [3, 4, 38] (fun _ _ h => h) hS rfl
          · -- from there
            clear hS
            rintro x38_4 hS
            show VC _ _ _ _ _ [(3, q10_1_0.val), (4, i64 i4_2), (38, .bool x38_4)] (Mo.and Mo.tt _) (Ow.star (Sv.own q10_1_0 9) (Ow.emp))
            refine VC.cond rfl (fun h38 => ?_) (fun h38 => ?_)
            ·
              replace hS := it_t h38 hS
              refine VC.seq ?_
              refine VC.region ?_
              refine VL.q (q_assign rfl) (by decide) ?_
              refine VL.to (fun _ _ h => h) ?_
              replace hS := up2 hS hK1
              cases hS
              exact VC.ret (fin1 (.inr rfl) rfl rfl () rfl trivial (fun _ _ => trivial) (fun _ _ => trivial))
            ·
              replace hS := it_b h38 hS
              refine VC.skip_to (fun _ _ h => h) ?_
              refine VC.seq ?_
              refine VC.region ?_
              refine VL.q (q_assign rfl) (by decide) ?_
              refine VL.to (fun _ _ h => h) ?_
              refine VC.block ?_
              refine VC.iter (S := Int) (fun (k5_9 : Int) => k5_9) (fun (k5_9 : Int) => [(3, q10_1_0.val), (4, i64 i4_2), (5, i64 k5_9)]) (fun (k5_9 : Int) => Mo.tt) (fun (k5_9 : Int) => Ow.star (Sv.own q10_1_0 9) (Ow.emp)) 0 [3, 4, 5] hS rfl ?_
              clear hS
              rintro k5_9 m2 y2 hS hK2
              show VC _ _ _ _ _ [(3, q10_1_0.val), (4, i64 i4_2), (5, i64 k5_9)] (Mo.and Mo.tt _) (Ow.star (Sv.own q10_1_0 9) (Ow.emp))
              refine VC.seq ?_
              refine VC.seq ?_
              refine VC.region ?_
              refine VL.q (q_move rfl) (by decide) ?_
              refine VL.q (q_move rfl) (by decide) ?_
              refine VL.q (q_move rfl) (by decide) ?_
              obtain ⟨z42_10, nz42_10, hz42_10, hS⟩ := at_s hS
              refine VL.q (q_ixo (s := q10_1_0) Tryz.underlying42 gsz9 rfl rfl nz42_10 (lt_of_get nz42_10 hz42_10)) (by decide) ?_
              refine VL.q (q_elo (s := q10_1_0) 9 gone9 rfl hz42_10 rfl) (by decide) ?_
              refine VL.q (q_slen Tryz.underlying9 rfl) (by decide) ?_
              refine VL.q (q_lss rfl rfl) (by decide) ?_
              refine VL.to (fun _ _ h => h) ?_
              refine VC.cond_dec rfl (fun h45 => ?_) (fun h45 => ?_)
              ·
                replace hS := it_t h45 hS
                refine VC.skip_to (fun _ _ h => h) ?_
                refine VC.seq ?_
                refine VC.block ?_
                refine VC.seq ?_
                refine VC.region ?_
                refine VL.q (q_move rfl) (by decide) ?_
                refine VL.q (q_move rfl) (by decide) ?_
                obtain ⟨z50_11, nz50_11, hz50_11, hS⟩ := at_s hS
                refine VL.q (q_ixo (s := q10_1_0) Tryz.underlying42 gsz9 rfl rfl nz50_11 (lt_of_get nz50_11 hz50_11)) (by decide) ?_
                refine VL.q (q_elo (s := q10_1_0) 9 gone9 rfl hz50_11 rfl) (by decide) ?_
                refine VL.q (q_move rfl) (by decide) ?_
                obtain ⟨z53_12, nz53_12, hz53_12, hS⟩ := at_s hS
                refine VL.q (q_sidx Tryz.underlying9 rfl rfl nz53_12 hz53_12) (by decide) ?_
                obtain ⟨y54_13, ey54_13, hS⟩ := bd_s hS
                refine VL.q (q_call (rectoref1_good_ct (z53_12.toNat : Int) ey54_13) rfl (fun _ _ => rfl)) (by decide) ?_
                refine VL.q (q_not rfl) (by decide) ?_
                refine VL.to (fun _ _ h => h) ?_
                refine VC.keep [3, 4, 5, 55] rfl ?_
                refine VC.cond rfl (fun h55 => ?_) (fun h55 => ?_)
                ·
                  replace hS := it_t h55 hS
                  refine VC.seq ?_
                  refine VC.region ?_
                  refine VL.q (q_assign rfl) (by decide) ?_
                  refine VL.to (fun _ _ h => h) ?_
                  replace hS := up2 hS hK2
                  replace hS := up2 hS hK1
                  cases hS
                  exact VC.ret (fin1 (.inr rfl) rfl rfl () rfl trivial (fun _ _ => trivial) (fun _ _ => trivial))
                ·
                  replace hS := it_b h55 hS
                  refine VC.skip_to (fun _ _ h => h) ?_
                  refine VC.region ?_
                  refine VL.q (q_move rfl) (by decide) ?_
                  obtain ⟨b47, hS⟩ := gd_s hS
                  refine VL.q (q_add rfl rfl b47) (by decide) ?_
                  refine VL.q (q_assign rfl) (by decide) ?_
                  refine VL.rnd (k5_9 + 1) [3, 4, 5] (fun _ _ h => h) (go2 hS hK2) rfl
              ·
                replace hS := it_f h45 hS
                replace hS := up2 hS hK2
                refine VC.exit_mt () [3, 4] (fun _ _ h => h) hS rfl
        · -- from there
          clear hS
          rintro _ hS
          show VC _ _ _ _ _ [(3, q10_1_0.val), (4, i64 i4_2)] (Mo.and Mo.tt _) (Ow.star (Sv.own q10_1_0 9) (Ow.emp))
          refine VC.region ?_
          refine VL.q (q_move rfl) (by decide) ?_
          obtain ⟨b19, hS⟩ := gd_s hS
          refine VL.q (q_add rfl rfl b19) (by decide) ?_
          refine VL.q (q_assign rfl) (by decide) ?_
          refine VL.rnd (i4_2 + 1) [3, 4] (fun _ _ h => h) (go2 hS hK1) rfl
      ·
        replace hS := it_f h17 hS
        replace hS := up2 hS hK1
        refine VC.exit_to (fun _ _ h => h) ?_
        refine VC.seq ?_
        refine VC.region ?_
        refine VL.q (q_assign rfl) (by decide) ?_
        refine VL.to (fun _ _ h => h) ?_
        cases hS
        exact VC.ret (fin1 (.inr rfl) rfl rfl () rfl trivial (fun _ _ => trivial) (fun _ _ => trivial))

set_option maxHeartbeats 4000000 in
set_option maxRecDepth 100000 in
theorem rectoref14_Mode_ct (m_0 : Int) {r : Bool} (hS : Sh.rectoref14_Mode m_0 = some r) :
    Ct Tryz.prog 130 [i64 m_0] Mo.tt (Ow.emp) (X := Unit) (fun _ => .bool r) (fun _ => True) (fun _ => Mo.tt) (fun _ => Ow.emp) := by
  refine Ct.of Tryz.func130 rfl (by kernel_rfl) Tryz.ntmps130 (by simp) fun c => ?_
  unfold Sh.rectoref14_Mode at hS
  refine VC.seq ?_
  refine VC.region ?_
  refine VL.q (q_assign rfl) (by decide) ?_
  refine VL.to (fun _ _ h => h) ?_
  refine VC.seq ?_
  refine VC.region ?_
  refine VL.q (q_move rfl) (by decide) ?_
  refine VL.q (q_eql rfl rfl) (by decide) ?_
  refine VL.q (q_move rfl) (by decide) ?_
  refine VL.split_dec 5 rfl (fun h5 => ?_) (fun h5 => ?_)
  ·
    replace hS := it_t h5 hS
    refine VL.gn rfl rfl rfl (by decide) ?_
    refine VL.gn rfl rfl rfl (by decide) ?_
    refine VL.q (q_pick_t rfl rfl) (by decide) ?_
    refine VL.q (q_assign rfl) (by decide) ?_
    refine VL.to (fun _ _ h => h) ?_
    cases hS
    exact VC.ret (fin1 (.inr rfl) rfl rfl () rfl trivial (fun _ _ => trivial) (fun _ _ => trivial))
  ·
    replace hS := it_f h5 hS
    refine VL.gy rfl rfl (q_move rfl) (by decide) ?_
    refine VL.gy rfl rfl (q_eql rfl rfl) (by decide) ?_
    refine VL.q (q_pick_f rfl rfl) (by decide) ?_
    refine VL.q (q_assign rfl) (by decide) ?_
    refine VL.to (fun _ _ h => h) ?_
    cases hS
    exact VC.ret (fin1 (.inr rfl) rfl rfl () rfl trivial (fun _ _ => trivial) (fun _ _ => trivial))

set_option maxHeartbeats 4000000 in
set_option maxRecDepth 100000 in
theorem rectoref1_Under_ct (p_0 : Str) (dir_1 : Str) {r : Bool} (hS : Sh.rectoref1_Under p_0 dir_1 = some r) :
    Ct Tryz.prog 138 [str p_0, str dir_1] Mo.tt (Ow.emp) (X := Unit) (fun _ => .bool r) (fun _ => True) (fun _ => Mo.tt) (fun _ => Ow.emp) := by
  refine Ct.of Tryz.func138 rfl (by kernel_rfl) Tryz.ntmps138 (by simp) fun c => ?_
  unfold Sh.rectoref1_Under at hS
  refine VC.seq ?_
  refine VC.region ?_
  refine VL.q (q_assign rfl) (by decide) ?_
  refine VL.to (fun _ _ h => h) ?_
  refine VC.seq ?_
  refine VC.seq ?_
  refine VC.region ?_
  refine VL.q (q_move rfl) (by decide) ?_
  refine VL.q (q_seq rfl rfl) (by decide) ?_
  refine VL.to (fun _ _ h => h) ?_
  refine VC.cond_dec rfl (fun h6 => ?_) (fun h6 => ?_)
  ·
    replace hS := it_t h6 hS
    refine VC.seq ?_
    refine VC.region ?_
    refine VL.q (q_move rfl) (by decide) ?_
    refine VL.q (q_sne rfl rfl) (by decide) ?_
    refine VL.q (q_assign rfl) (by decide) ?_
    refine VL.to (fun _ _ h => h) ?_
    cases hS
    exact VC.ret (fin1 (.inr rfl) rfl rfl () rfl trivial (fun _ _ => trivial) (fun _ _ => trivial))
  ·
    replace hS := it_f h6 hS
    refine VC.skip_to (fun _ _ h => h) ?_
    refine VC.seq ?_
    refine VC.region ?_
    refine VL.q (q_move rfl) (by decide) ?_
    refine VL.q (q_slen Tryz.underlying9 rfl) (by decide) ?_
    refine VL.q (q_move rfl) (by decide) ?_
    refine VL.q (q_slen Tryz.underlying9 rfl) (by decide) ?_
    obtain ⟨b13, hS⟩ := gd_s hS
    refine VL.q (q_add rfl rfl b13) (by decide) ?_
    refine VL.q (q_gtr rfl rfl) (by decide) ?_
    refine VL.q (q_move rfl) (by decide) ?_
    refine VL.split_dec 15 rfl (fun h15 => ?_) (fun h15 => ?_)
    ·
      replace hS := it_t h15 hS
      refine VL.gy rfl rfl (q_move rfl) (by decide) ?_
      refine VL.gy rfl rfl (q_move rfl) (by decide) ?_
      refine VL.gy rfl rfl (q_slen Tryz.underlying9 rfl) (by decide) ?_
      obtain ⟨b19, hS⟩ := gd_s hS
      obtain ⟨y19_1, ey19_1, hS⟩ := lt_s hS
      refine VL.gy rfl rfl (q_stoE Tryz.underlying9 rfl rfl b19.1 b19.2 ey19_1) (by decide) ?_
      refine VL.gy rfl rfl (q_move rfl) (by decide) ?_
      refine VL.gy rfl rfl (q_seq rfl rfl) (by decide) ?_
      refine VL.q (q_pick_t rfl rfl) (by decide) ?_
      refine VL.q (q_move rfl) (by decide) ?_
      refine VL.split_dec 23 rfl (fun h23 => ?_) (fun h23 => ?_)
      ·
        replace hS := it_t h23 hS
        refine VL.gy rfl rfl (q_move rfl) (by decide) ?_
        refine VL.gy rfl rfl (q_move rfl) (by decide) ?_
        refine VL.gy rfl rfl (q_slen Tryz.underlying9 rfl) (by decide) ?_
        obtain ⟨z27_2, nz27_2, hz27_2, hS⟩ := at_s hS
        refine VL.gy rfl rfl (q_sidx Tryz.underlying9 rfl rfl nz27_2 hz27_2) (by decide) ?_
        refine VL.gy rfl rfl (q_eql rfl rfl) (by decide) ?_
        refine VL.q (q_pick_t rfl rfl) (by decide) ?_
        refine VL.q (q_assign rfl) (by decide) ?_
        refine VL.to (fun _ _ h => h) ?_
        refine VC.keep [4] rfl ?_
        cases hS
        exact VC.ret (fin1 (.inr rfl) rfl rfl () rfl trivial (fun _ _ => trivial) (fun _ _ => trivial))
      ·
        replace hS := it_f h23 hS
        refine VL.gn rfl rfl rfl (by decide) ?_
        refine VL.gn rfl rfl rfl (by decide) ?_
        refine VL.gn rfl rfl rfl (by decide) ?_
        refine VL.gn rfl rfl rfl (by decide) ?_
        refine VL.gn rfl rfl rfl (by decide) ?_
        refine VL.q (q_pick_f rfl rfl) (by decide) ?_
        refine VL.q (q_assign rfl) (by decide) ?_
        refine VL.to (fun _ _ h => h) ?_
        refine VC.keep [4] rfl ?_
        cases hS
        exact VC.ret (fin1 (.inr rfl) rfl rfl () rfl trivial (fun _ _ => trivial) (fun _ _ => trivial))
    ·
      replace hS := it_f h15 hS
      refine VL.gn rfl rfl rfl (by decide) ?_
      refine VL.gn rfl rfl rfl (by decide) ?_
      refine VL.gn rfl rfl rfl (by decide) ?_
      refine VL.gn rfl rfl rfl (by decide) ?_
      refine VL.gn rfl rfl rfl (by decide) ?_
      refine VL.gn rfl rfl rfl (by decide) ?_
      refine VL.q (q_pick_f rfl rfl) (by decide) ?_
      refine VL.q (q_move rfl) (by decide) ?_
      refine VL.gn rfl rfl rfl (by decide) ?_
      refine VL.gn rfl rfl rfl (by decide) ?_
      refine VL.gn rfl rfl rfl (by decide) ?_
      refine VL.gn rfl rfl rfl (by decide) ?_
      refine VL.gn rfl rfl rfl (by decide) ?_
      refine VL.q (q_pick_f rfl rfl) (by decide) ?_
      refine VL.q (q_assign rfl) (by decide) ?_
      refine VL.to (fun _ _ h => h) ?_
      refine VC.keep [4] rfl ?_
      cases hS
      exact VC.ret (fin1 (.inr rfl) rfl rfl () rfl trivial (fun _ _ => trivial) (fun _ _ => trivial))

end Go.Proofs.YtipnlckfohhkbaaGreatDoor
end
