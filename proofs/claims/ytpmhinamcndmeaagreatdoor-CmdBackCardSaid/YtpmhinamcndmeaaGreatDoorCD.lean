/- Part of the proofs of: For every command it is told whether it may be and why not, and in words, and back, as far as its verb has it. -/
import Derived.Test.YtpmhinamcndmeaaGreatDoorCC
set_option linter.unusedVariables false
set_option linter.unusedSimpArgs false
set_option linter.unusedSectionVars false
section
set_option linter.unusedVariables false
namespace Go.Proofs.YtpmhinamcndmeaaGreatDoor
set_option maxHeartbeats 4000000
set_option maxRecDepth 100000
open Go.RowKit Go.V
open Go.S hiding Str
theorem rectoref17_Good_ct (s_0 : Str) {r : Bool} (hS : Sh.rectoref17_Good s_0 = some r) :
 Ct Tryz.prog 188 [str s_0] Mo.tt (Ow.emp) (X := Unit) (fun _ => .bool r) (fun _ => True) (fun _ => Mo.tt) (fun _ => Ow.emp) := by
 refine Ct.of Tryz.func188 rfl (by kernel_rfl) Tryz.ntmps188 (by simp) fun c => ?_
 unfold Sh.rectoref17_Good at hS
 refine Zq (Zr ?_)
 refine Za ?_
 refine Zl ?_
 refine Zq ?_
 refine VC.cutJ (S := Bool) (fun (x21_1 : Bool) => x21_1) (fun (x21_1 : Bool) => [(0, str s_0), (21, .bool x21_1)]) (fun (x21_1 : Bool) => Mo.tt) (fun (x21_1 : Bool) => Ow.emp) hS ?_ ?_
 ·
  clear hS
  intro k2 hS
  refine Zr ?_
  refine Zm ?_
  refine VL.q (q_slen Tryz.underlying9 rfl) (by decide) ?_
  refine VL.q (q_lss rfl rfl) (by decide) ?_
  refine Zm ?_
  refine VL.split_dec 7 rfl (fun h7 => ?_) (fun h7 => ?_)
  ·
   replace hS := it_t h7 hS
   refine Zn ?_
   refine Zn ?_
   refine Zn ?_
   refine Zt ?_
   refine Zm ?_
   refine Zn ?_
   refine Zn ?_
   refine Zn ?_
   refine Zt ?_
   refine Zm ?_
   refine Zn ?_
   refine Zn ?_
   refine Zn ?_
   refine Zt ?_
   refine VL.mt true [0, 21] (fun _ _ h => h) hS rfl
  replace hS := it_f h7 hS
  refine Zg ?_
  refine VL.gy rfl rfl (q_slen Tryz.underlying9 rfl) (by decide) ?_
  refine VL.gy rfl rfl (q_gtr rfl rfl) (by decide) ?_
  refine Zf ?_
  refine Zm ?_
  refine VL.split_dec 12 rfl (fun h12 => ?_) (fun h12 => ?_)
  ·
   replace hS := it_t h12 hS
   refine Zn ?_
   refine Zn ?_
   refine Zn ?_
   refine Zt ?_
   refine Zm ?_
   refine Zn ?_
   refine Zn ?_
   refine Zn ?_
   refine Zt ?_
   refine VL.mt true [0, 21] (fun _ _ h => h) hS rfl
  replace hS := it_f h12 hS
  refine Zg ?_
  obtain ⟨z14_3, nz14_3, hz14_3, hS⟩ := at_s hS
  refine VL.gy rfl rfl (q_sidx Tryz.underlying9 rfl rfl nz14_3 hz14_3) (by decide) ?_
  refine VL.gy rfl rfl (q_lss rfl rfl) (by decide) ?_
  refine Zf ?_
  refine Zm ?_
  refine VL.split_dec 17 rfl (fun h17 => ?_) (fun h17 => ?_)
  ·
   replace hS := it_t h17 hS
   refine Zn ?_
   refine Zn ?_
   refine Zn ?_
   refine Zt ?_
   refine VL.mt true [0, 21] (fun _ _ h => h) hS rfl
  replace hS := it_f h17 hS
  refine Zg ?_
  obtain ⟨z19_4, nz19_4, hz19_4, hS⟩ := at_s hS
  refine VL.gy rfl rfl (q_sidx Tryz.underlying9 rfl rfl nz19_4 hz19_4) (by decide) ?_
  refine VL.gy rfl rfl (q_gtr rfl rfl) (by decide) ?_
  refine Zf ?_
  refine VL.mt (decide (122 < (z19_4.toNat : Int))) [0, 21] (fun _ _ h => h) hS rfl
 clear hS
 rintro x21_1 hS
 show VC _ _ _ _ _ [(0, str s_0), (21, .bool x21_1)] (Mo.and Mo.tt _) (Ow.emp)
 refine VC.cond rfl (fun h21 => ?_) (fun h21 => ?_)
 ·
  replace hS := it_t h21 hS
  refine Zq (Zr ?_)
  refine Za ?_
  refine Zl ?_
  cases hS
  exact Ze
 replace hS := it_b h21 hS
 refine Zk ?_
 refine Zq (Zq (Zr ?_))
 refine Za ?_
 refine Zl ?_
 refine Zb ?_
 refine VC.iter (S := Int) (fun (i3_5 : Int) => i3_5) (fun (i3_5 : Int) => [(0, str s_0), (3, i64 i3_5)]) (fun (i3_5 : Int) => Mo.tt) (fun (i3_5 : Int) => Ow.emp) 0 [0, 3] hS rfl ?_
 clear hS
 rintro i3_5 m1 y1 hS hK1
 show VC _ _ _ _ _ [(0, str s_0), (3, i64 i3_5)] (Mo.and Mo.tt _) (Ow.emp)
 refine Zq (Zq (Zr ?_))
 refine Zm ?_
 refine Zm ?_
 refine VL.q (q_slen Tryz.underlying9 rfl) (by decide) ?_
 refine VL.q (q_lss rfl rfl) (by decide) ?_
 refine Zl ?_
 refine VC.cond_dec rfl (fun h25 => ?_) (fun h25 => ?_)
 ·
  replace hS := it_t h25 hS
  refine Zk ?_
  refine Zq (Zb ?_)
  refine VC.cutJ (S := Bool) (fun (x55_6 : Bool) => x55_6) (fun (x55_6 : Bool) => [(0, str s_0), (3, i64 i3_5), (55, .bool x55_6)]) (fun (x55_6 : Bool) => Mo.tt) (fun (x55_6 : Bool) => Ow.emp) hS ?_ ?_
  ·
   clear hS
   intro k7 hS
   refine Zr ?_
   refine Zm ?_
   refine Zm ?_
   obtain ⟨z30_8, nz30_8, hz30_8, hS⟩ := at_s hS
   refine VL.q (q_sidx Tryz.underlying9 rfl rfl nz30_8 hz30_8) (by decide) ?_
   refine VL.q (q_lss rfl rfl) (by decide) ?_
   refine Zm ?_
   refine VL.split_dec 32 rfl (fun h32 => ?_) (fun h32 => ?_)
   ·
    replace hS := it_t h32 hS
    refine Zn ?_
    refine Zn ?_
    refine Zn ?_
    refine Zn ?_
    refine Zt ?_
    refine Zm ?_
    refine Zg ?_
    refine Zg ?_
    obtain ⟨z41_9, nz41_9, hz41_9, hS⟩ := at_s hS
    refine VL.gy rfl rfl (q_sidx Tryz.underlying9 rfl rfl nz41_9 hz41_9) (by decide) ?_
    refine VL.gy rfl rfl (q_lss rfl rfl) (by decide) ?_
    refine Zg ?_
    refine VL.split_dec 43 rfl (fun h43 => ?_) (fun h43 => ?_)
    ·
     replace hS := it_t h43 hS
     refine Zn ?_
     refine Zn ?_
     refine Zn ?_
     refine Zn ?_
     refine VL.gy rfl rfl (q_pick_t rfl rfl) (by decide) ?_
     refine Zt ?_
     refine Zm ?_
     refine Zg ?_
     refine Zg ?_
     obtain ⟨z53_10, nz53_10, hz53_10, hS⟩ := at_s hS
     refine VL.gy rfl rfl (q_sidx Tryz.underlying9 rfl rfl nz53_10 hz53_10) (by decide) ?_
     refine VL.gy rfl rfl (q_neq rfl rfl) (by decide) ?_
     refine Zt ?_
     refine VL.mt (!decide ((z53_10.toNat : Int) = 45)) [0, 3, 55] (fun _ _ h => h) hS rfl
    replace hS := it_f h43 hS
    refine Zg ?_
    refine Zg ?_
    obtain ⟨z46_11, nz46_11, hz46_11, hS⟩ := at_s hS
    refine VL.gy rfl rfl (q_sidx Tryz.underlying9 rfl rfl nz46_11 hz46_11) (by decide) ?_
    refine VL.gy rfl rfl (q_gtr rfl rfl) (by decide) ?_
    refine VL.gy rfl rfl (q_pick_f rfl rfl) (by decide) ?_
    refine Zt ?_
    refine Zm ?_
    refine VL.split_dec 50 rfl (fun h50 => ?_) (fun h50 => ?_)
    ·
     replace hS := it_t h50 hS
     refine Zg ?_
     refine Zg ?_
     obtain ⟨z53_12, nz53_12, hz53_12, hS⟩ := at_s hS
     refine VL.gy rfl rfl (q_sidx Tryz.underlying9 rfl rfl nz53_12 hz53_12) (by decide) ?_
     refine VL.gy rfl rfl (q_neq rfl rfl) (by decide) ?_
     refine Zt ?_
     refine VL.mt (!decide ((z53_12.toNat : Int) = 45)) [0, 3, 55] (fun _ _ h => h) hS rfl
    replace hS := it_f h50 hS
    refine Zn ?_
    refine Zn ?_
    refine Zn ?_
    refine Zn ?_
    refine Zf ?_
    refine VL.mt false [0, 3, 55] (fun _ _ h => h) hS rfl
   replace hS := it_f h32 hS
   refine Zg ?_
   refine Zg ?_
   obtain ⟨z35_13, nz35_13, hz35_13, hS⟩ := at_s hS
   refine VL.gy rfl rfl (q_sidx Tryz.underlying9 rfl rfl nz35_13 hz35_13) (by decide) ?_
   refine VL.gy rfl rfl (q_gtr rfl rfl) (by decide) ?_
   refine Zf ?_
   refine Zm ?_
   refine VL.split_dec 38 rfl (fun h38 => ?_) (fun h38 => ?_)
   ·
    replace hS := it_t h38 hS
    refine Zg ?_
    refine Zg ?_
    obtain ⟨z41_14, nz41_14, hz41_14, hS⟩ := at_s hS
    refine VL.gy rfl rfl (q_sidx Tryz.underlying9 rfl rfl nz41_14 hz41_14) (by decide) ?_
    refine VL.gy rfl rfl (q_lss rfl rfl) (by decide) ?_
    refine Zg ?_
    refine VL.split_dec 43 rfl (fun h43 => ?_) (fun h43 => ?_)
    ·
     replace hS := it_t h43 hS
     refine Zn ?_
     refine Zn ?_
     refine Zn ?_
     refine Zn ?_
     refine VL.gy rfl rfl (q_pick_t rfl rfl) (by decide) ?_
     refine Zt ?_
     refine Zm ?_
     refine Zg ?_
     refine Zg ?_
     obtain ⟨z53_15, nz53_15, hz53_15, hS⟩ := at_s hS
     refine VL.gy rfl rfl (q_sidx Tryz.underlying9 rfl rfl nz53_15 hz53_15) (by decide) ?_
     refine VL.gy rfl rfl (q_neq rfl rfl) (by decide) ?_
     refine Zt ?_
     refine VL.mt (!decide ((z53_15.toNat : Int) = 45)) [0, 3, 55] (fun _ _ h => h) hS rfl
    replace hS := it_f h43 hS
    refine Zg ?_
    refine Zg ?_
    obtain ⟨z46_16, nz46_16, hz46_16, hS⟩ := at_s hS
    refine VL.gy rfl rfl (q_sidx Tryz.underlying9 rfl rfl nz46_16 hz46_16) (by decide) ?_
    refine VL.gy rfl rfl (q_gtr rfl rfl) (by decide) ?_
    refine VL.gy rfl rfl (q_pick_f rfl rfl) (by decide) ?_
    refine Zt ?_
    refine Zm ?_
    refine VL.split_dec 50 rfl (fun h50 => ?_) (fun h50 => ?_)
    ·
     replace hS := it_t h50 hS
     refine Zg ?_
     refine Zg ?_
     obtain ⟨z53_17, nz53_17, hz53_17, hS⟩ := at_s hS
     refine VL.gy rfl rfl (q_sidx Tryz.underlying9 rfl rfl nz53_17 hz53_17) (by decide) ?_
     refine VL.gy rfl rfl (q_neq rfl rfl) (by decide) ?_
     refine Zt ?_
     refine VL.mt (!decide ((z53_17.toNat : Int) = 45)) [0, 3, 55] (fun _ _ h => h) hS rfl
    replace hS := it_f h50 hS
    refine Zn ?_
    refine Zn ?_
    refine Zn ?_
    refine Zn ?_
    refine Zf ?_
    refine VL.mt false [0, 3, 55] (fun _ _ h => h) hS rfl
   replace hS := it_f h38 hS
   refine Zn ?_
   refine Zn ?_
   refine Zn ?_
   refine Zn ?_
   refine Zn ?_
   refine VL.gu rfl rfl (by decide) ?_
   refine VL.gu rfl rfl (by decide) ?_
   refine VL.gu rfl rfl (by decide) ?_
   refine VL.gu rfl rfl (by decide) ?_
   refine Zn ?_
   refine Zf ?_
   refine Zm ?_
   refine Zn ?_
   refine Zn ?_
   refine Zn ?_
   refine Zn ?_
   refine Zf ?_
   refine VL.mt false [0, 3, 55] (fun _ _ h => h) hS rfl
  clear hS
  rintro x55_6 hS
  show VC _ _ _ _ _ [(0, str s_0), (3, i64 i3_5), (55, .bool x55_6)] (Mo.and Mo.tt _) (Ow.emp)
  refine VC.cond rfl (fun h55 => ?_) (fun h55 => ?_)
  ·
   replace hS := it_t h55 hS
   refine Zq (Zr ?_)
   refine Za ?_
   refine Zl ?_
   replace hS := up2 hS hK1
   cases hS
   exact Ze
  replace hS := it_b h55 hS
  refine Zk ?_
  refine Zr ?_
  refine Zm ?_
  obtain ⟨b27, hS⟩ := gd_s hS
  refine VL.q (q_add rfl rfl b27) (by decide) ?_
  refine Za ?_
  refine VL.rnd (i3_5 + 1) [0, 3] (fun _ _ h => h) (go2 hS hK1) rfl
 replace hS := it_f h25 hS
 replace hS := up2 hS hK1
 refine Zx ?_
 refine Zq (Zr ?_)
 refine Za ?_
 refine Zl ?_
 cases hS
 exact Ze
theorem rectoref17_name_ct (c_0 : Rectoref17Cmd) {r : Int} (hS : Sh.rectoref17_name c_0.pl = some r) :
 Ct Tryz.prog 106 [.agg #[str c_0.verb, str c_0.name, i64 c_0.n, str c_0.text, .bool c_0.force, c_0.todo.val]] c_0.todo.ok (Ow.emp) (X := Unit) (fun _ => i64 r) (fun _ => True) (fun _ => Mo.tt) (fun _ => Ow.emp) := by
 refine Ct.of Tryz.func106 rfl (by kernel_rfl) Tryz.ntmps106 (by simp) fun c => ?_
 unfold Sh.rectoref17_name at hS
 refine Zq (Zr ?_)
 refine VL.box (cs := [str c_0.verb, str c_0.name, i64 c_0.n, str c_0.text, .bool c_0.force, c_0.todo.val]) rfl rfl (by decide) fun b1_1 => ?_
 refine Za ?_
 refine Zl ?_
 refine Zq (Zr ?_)
 refine Za ?_
 refine Zl ?_
 refine VC.cutJ (S := Bool) (fun (ok3_2 : Bool) => ok3_2) (fun (ok3_2 : Bool) => [(3, .bool ok3_2)]) (fun (ok3_2 : Bool) => Mo.tt) (fun (ok3_2 : Bool) => Ow.star (Blk b1_1 [str c_0.verb, str c_0.name, i64 c_0.n, str c_0.text, .bool c_0.force, c_0.todo.val] 91) (Ow.emp)) hS ?_ ?_
 ·
  clear hS
  intro k3 hS
  refine Zq (Zr ?_)
  refine VL.q (q_field gfa91_0 rfl) (by decide) ?_
  refine VL.q (q_fe gone9 rfl rfl) (by decide) ?_
  refine Zl ?_
  refine Zb (Zq (Zr ?_))
  refine Zs ?_
  refine Za ?_
  refine Zl ?_
  refine VC.cond_dec rfl (fun h6 => ?_) (fun h6 => ?_)
  ·
   replace hS := it_t h6 hS
   refine Zq (Zr ?_)
   refine VL.q (q_field gfa91_1 rfl) (by decide) ?_
   refine VL.q (q_fe gone9 rfl rfl) (by decide) ?_
   refine VL.q (q_sne rfl rfl) (by decide) ?_
   refine Zl ?_
   refine VC.keep [1, 3, 10] rfl ?_
   refine VC.cond_ndec rfl (fun h10 => ?_) (fun h10 => ?_)
   ·
    replace hS := it_f h10 hS
    refine Zq (Zr ?_)
    refine VL.q (q_field gfa91_1 rfl) (by decide) ?_
    refine VL.q (q_fe gone9 rfl rfl) (by decide) ?_
    obtain ⟨y13_4, ey13_4, hS⟩ := bd_s hS
    refine VL.q (q_call (rectoref1_Check_ct c_0.name ey13_4) rfl (fun _ _ => rfl)) (by decide) ?_
    refine Za ?_
    refine Zl ?_
    cases hS
    exact Ze
   replace hS := it_t h10 hS
   refine VC.skip_mt true [3] (fun _ _ h => h) hS rfl
  replace hS := it_f h6 hS
  refine Zq (Zr ?_)
  refine Zs ?_
  refine Za ?_
  refine Zl ?_
  refine VC.cond_dec rfl (fun h14 => ?_) (fun h14 => ?_)
  ·
   replace hS := it_t h14 hS
   refine Zq (Zr ?_)
   refine VL.q (q_field gfa91_1 rfl) (by decide) ?_
   refine VL.q (q_fe gone9 rfl rfl) (by decide) ?_
   obtain ⟨y18_5, ey18_5, hS⟩ := bd_s hS
   refine VL.q (q_call (rectoref1_Check_ct c_0.name ey18_5) rfl (fun _ _ => rfl)) (by decide) ?_
   refine Za ?_
   refine Zl ?_
   refine VC.keep [2] rfl ?_
   cases hS
   exact Ze
  replace hS := it_f h14 hS
  refine VC.cutJ (S := Bool) (fun (x19_6 : Bool) => x19_6) (fun (x19_6 : Bool) => [(1, ptr b1_1 0), (3, .bool true), (5, str c_0.verb), (19, .bool x19_6)]) (fun (x19_6 : Bool) => Mo.tt) (fun (x19_6 : Bool) => Ow.star (Blk b1_1 [str c_0.verb, str c_0.name, i64 c_0.n, str c_0.text, .bool c_0.force, c_0.todo.val] 91) (Ow.emp)) hS ?_ ?_
  ·
   clear hS
   intro k7 hS
   refine Zq (Zr ?_)
   refine Zs ?_
   refine Za ?_
   refine Zl ?_
   refine VC.keep [1, 3, 5, 19] rfl ?_
   refine VC.cond_dec rfl (fun h19 => ?_) (fun h19 => ?_)
   ·
    replace hS := it_t h19 hS
    refine VC.skip_mt (decide (c_0.verb = [98, 114, 97, 110, 99, 104])) [1, 3, 5, 19] (fun _ _ h => h) hS rfl
   replace hS := it_f h19 hS
   refine Zq (Zr ?_)
   refine Zs ?_
   refine Za ?_
   refine Zl ?_
   refine VC.cond_dec rfl (fun h19 => ?_) (fun h19 => ?_)
   ·
    replace hS := it_t h19 hS
    refine VC.skip_mt (decide (c_0.verb = [100, 101, 108, 101, 116, 101])) [1, 3, 5, 19] (fun _ _ h => h) hS rfl
   replace hS := it_f h19 hS
   refine Zr ?_
   refine Zs ?_
   refine Za ?_
   refine VL.mt (decide (c_0.verb = [109, 101, 114, 103, 101])) [1, 3, 5, 19] (fun _ _ h => h) hS rfl
  clear hS
  rintro x19_6 hS
  show VC _ _ _ _ _ [(1, ptr b1_1 0), (3, .bool true), (5, str c_0.verb), (19, .bool x19_6)] (Mo.and Mo.tt _) (Ow.star (Blk b1_1 [str c_0.verb, str c_0.name, i64 c_0.n, str c_0.text, .bool c_0.force, c_0.todo.val] 91) (Ow.emp))
  refine VC.cond rfl (fun h19 => ?_) (fun h19 => ?_)
  ·
   replace hS := it_t h19 hS
   refine Zr ?_
   refine VL.q (q_field gfa91_1 rfl) (by decide) ?_
   refine VL.q (q_fe gone9 rfl rfl) (by decide) ?_
   obtain ⟨y25_8, ey25_8, hS⟩ := bd_s hS
   refine VL.q (q_call (rectoref17_Good_ct c_0.name ey25_8) rfl (fun _ _ => rfl)) (by decide) ?_
   refine Za ?_
   refine VL.mt y25_8 [3] (fun _ _ h => h) hS rfl
  replace hS := it_b h19 hS
  refine Zq (Zr ?_)
  refine Zs ?_
  refine Za ?_
  refine Zl ?_
  refine VC.cond_dec rfl (fun h26 => ?_) (fun h26 => ?_)
  ·
   replace hS := it_t h26 hS
   refine Zr ?_
   refine VL.q (q_field gfa91_1 rfl) (by decide) ?_
   refine VL.q (q_fe gone9 rfl rfl) (by decide) ?_
   refine Zs ?_
   refine Zm ?_
   refine VL.split_dec 31 rfl (fun h31 => ?_) (fun h31 => ?_)
   ·
    replace hS := it_t h31 hS
    refine Zn ?_
    refine Zn ?_
    refine Zn ?_
    refine Zt ?_
    refine Za ?_
    refine VL.mt true [3] (fun _ _ h => h) hS rfl
   replace hS := it_f h31 hS
   refine VL.gy rfl rfl (q_field gfa91_1 rfl) (by decide) ?_
   refine VL.gy rfl rfl (q_fe gone9 rfl rfl) (by decide) ?_
   obtain ⟨y34_9, ey34_9, hS⟩ := bd_s hS
   refine VL.gy rfl rfl (q_call (rectoref17_Good_ct c_0.name ey34_9) rfl (fun _ _ => rfl)) (by decide) ?_
   refine Zf ?_
   refine Za ?_
   refine VL.mt y34_9 [3] (fun _ _ h => h) hS rfl
  replace hS := it_f h26 hS
  refine Zq (Zr ?_)
  refine Zs ?_
  refine Za ?_
  refine Zl ?_
  refine VC.cond_dec rfl (fun h36 => ?_) (fun h36 => ?_)
  ·
   replace hS := it_t h36 hS
   refine Zr ?_
   refine VL.q (q_field gfa91_1 rfl) (by decide) ?_
   refine VL.q (q_fe gone9 rfl rfl) (by decide) ?_
   refine Zs ?_
   refine Zm ?_
   refine VL.split_dec 41 rfl (fun h41 => ?_) (fun h41 => ?_)
   ·
    replace hS := it_t h41 hS
    refine Zn ?_
    refine Zn ?_
    refine Zn ?_
    refine Zt ?_
    refine Zm ?_
    refine Zn ?_
    refine Zn ?_
    refine Zn ?_
    refine Zt ?_
    refine Za ?_
    refine VL.mt true [3] (fun _ _ h => h) hS rfl
   replace hS := it_f h41 hS
   refine VL.gy rfl rfl (q_field gfa91_1 rfl) (by decide) ?_
   refine VL.gy rfl rfl (q_fe gone9 rfl rfl) (by decide) ?_
   refine VL.gy rfl rfl (q_seq rfl rfl) (by decide) ?_
   refine Zf ?_
   refine Zm ?_
   refine VL.split_dec 46 rfl (fun h46 => ?_) (fun h46 => ?_)
   ·
    replace hS := it_t h46 hS
    refine Zn ?_
    refine Zn ?_
    refine Zn ?_
    refine Zt ?_
    refine Za ?_
    refine VL.mt true [3] (fun _ _ h => h) hS rfl
   replace hS := it_f h46 hS
   refine VL.gy rfl rfl (q_field gfa91_1 rfl) (by decide) ?_
   refine VL.gy rfl rfl (q_fe gone9 rfl rfl) (by decide) ?_
   refine VL.gy rfl rfl (q_seq rfl rfl) (by decide) ?_
   refine Zf ?_
   refine Za ?_
   refine VL.mt (decide (c_0.name = [104, 97, 114, 100])) [3] (fun _ _ h => h) hS rfl
  replace hS := it_f h36 hS
  refine VC.skip_mt true [3] (fun _ _ h => h) hS rfl
 clear hS
 rintro ok3_2 hS
 show VC _ _ _ _ _ [(3, .bool ok3_2)] (Mo.and Mo.tt _) (Ow.star (Blk b1_1 [str c_0.verb, str c_0.name, i64 c_0.n, str c_0.text, .bool c_0.force, c_0.todo.val] 91) (Ow.emp))
 refine Zq (Zq (Zr ?_))
 refine Zm ?_
 refine VL.q (q_not rfl) (by decide) ?_
 refine Zl ?_
 refine VC.cond rfl (fun h52 => ?_) (fun h52 => ?_)
 ·
  replace hS := it_t h52 hS
  refine Zq (Zr ?_)
  refine Za ?_
  refine Zl ?_
  cases hS
  exact Ze
 replace hS := it_b h52 hS
 refine Zk ?_
 refine Zq (Zr ?_)
 refine Za ?_
 refine Zl ?_
 cases hS
 exact Ze
theorem rectoref17_number_ct (c_0 : Rectoref17Cmd) {r : Int} (hS : Sh.rectoref17_number c_0.pl = some r) :
 Ct Tryz.prog 107 [.agg #[str c_0.verb, str c_0.name, i64 c_0.n, str c_0.text, .bool c_0.force, c_0.todo.val]] c_0.todo.ok (Ow.emp) (X := Unit) (fun _ => i64 r) (fun _ => True) (fun _ => Mo.tt) (fun _ => Ow.emp) := by
 refine Ct.of Tryz.func107 rfl (by kernel_rfl) Tryz.ntmps107 (by simp) fun c => ?_
 unfold Sh.rectoref17_number at hS
 refine Zq (Zr ?_)
 refine VL.box (cs := [str c_0.verb, str c_0.name, i64 c_0.n, str c_0.text, .bool c_0.force, c_0.todo.val]) rfl rfl (by decide) fun b1_1 => ?_
 refine Za ?_
 refine Zl ?_
 refine Zq (Zr ?_)
 refine Za ?_
 refine Zl ?_
 refine VC.cutJ (S := Int) (fun (least3_2 : Int) => least3_2) (fun (least3_2 : Int) => [(1, ptr b1_1 0), (3, i64 least3_2)]) (fun (least3_2 : Int) => Mo.tt) (fun (least3_2 : Int) => Ow.star (Blk b1_1 [str c_0.verb, str c_0.name, i64 c_0.n, str c_0.text, .bool c_0.force, c_0.todo.val] 91) (Ow.emp)) hS ?_ ?_
 ·
  clear hS
  intro k3 hS
  refine Zq (Zr ?_)
  refine VL.q (q_field gfa91_0 rfl) (by decide) ?_
  refine VL.q (q_fe gone9 rfl rfl) (by decide) ?_
  refine Zl ?_
  refine Zb ?_
  refine VC.cutJ (S := Bool) (fun (x6_4 : Bool) => x6_4) (fun (x6_4 : Bool) => [(1, ptr b1_1 0), (3, i64 (-9223372036854775808)), (5, str c_0.verb), (6, .bool x6_4)]) (fun (x6_4 : Bool) => Mo.tt) (fun (x6_4 : Bool) => Ow.star (Blk b1_1 [str c_0.verb, str c_0.name, i64 c_0.n, str c_0.text, .bool c_0.force, c_0.todo.val] 91) (Ow.emp)) hS ?_ ?_
  ·
   clear hS
   intro k5 hS
   refine Zq (Zr ?_)
   refine Zs ?_
   refine Za ?_
   refine Zl ?_
   refine VC.cond_dec rfl (fun h6 => ?_) (fun h6 => ?_)
   ·
    replace hS := it_t h6 hS
    refine VC.skip_mt (decide (c_0.verb = [112, 111, 112])) [1, 3, 5, 6] (fun _ _ h => h) hS rfl
   replace hS := it_f h6 hS
   refine Zq (Zr ?_)
   refine Zs ?_
   refine Za ?_
   refine Zl ?_
   refine VC.cond_dec rfl (fun h6 => ?_) (fun h6 => ?_)
   ·
    replace hS := it_t h6 hS
    refine VC.skip_mt (decide (c_0.verb = [97, 112, 112, 108, 121])) [1, 3, 5, 6] (fun _ _ h => h) hS rfl
   replace hS := it_f h6 hS
   refine Zr ?_
   refine Zs ?_
   refine Za ?_
   refine VL.mt (decide (c_0.verb = [115, 104, 101, 108, 118, 101])) [1, 3, 5, 6] (fun _ _ h => h) hS rfl
  clear hS
  rintro x6_4 hS
  show VC _ _ _ _ _ [(1, ptr b1_1 0), (3, i64 (-9223372036854775808)), (5, str c_0.verb), (6, .bool x6_4)] (Mo.and Mo.tt _) (Ow.star (Blk b1_1 [str c_0.verb, str c_0.name, i64 c_0.n, str c_0.text, .bool c_0.force, c_0.todo.val] 91) (Ow.emp))
  refine VC.cond rfl (fun h6 => ?_) (fun h6 => ?_)
  ·
   replace hS := it_t h6 hS
   refine Zr ?_
   refine Za ?_
   refine VL.mt 0 [1, 3] (fun _ _ h => h) hS rfl
  replace hS := it_b h6 hS
  refine VC.cutJ (S := Bool) (fun (x10_6 : Bool) => x10_6) (fun (x10_6 : Bool) => [(1, ptr b1_1 0), (3, i64 (-9223372036854775808)), (5, str c_0.verb), (10, .bool x10_6)]) (fun (x10_6 : Bool) => Mo.tt) (fun (x10_6 : Bool) => Ow.star (Blk b1_1 [str c_0.verb, str c_0.name, i64 c_0.n, str c_0.text, .bool c_0.force, c_0.todo.val] 91) (Ow.emp)) hS ?_ ?_
  ·
   clear hS
   intro k7 hS
   refine Zq (Zr ?_)
   refine Zs ?_
   refine Za ?_
   refine Zl ?_
   refine VC.cond_dec rfl (fun h10 => ?_) (fun h10 => ?_)
   ·
    replace hS := it_t h10 hS
    refine VC.skip_mt (decide (c_0.verb = [112, 105, 99, 107])) [1, 3, 5, 10] (fun _ _ h => h) hS rfl
   replace hS := it_f h10 hS
   refine Zq (Zr ?_)
   refine Zs ?_
   refine Za ?_
   refine Zl ?_
   refine VC.cond_dec rfl (fun h10 => ?_) (fun h10 => ?_)
   ·
    replace hS := it_t h10 hS
    refine VC.skip_mt (decide (c_0.verb = [114, 101, 118, 101, 114, 116])) [1, 3, 5, 10] (fun _ _ h => h) hS rfl
   replace hS := it_f h10 hS
   refine Zq (Zr ?_)
   refine Zs ?_
   refine Za ?_
   refine Zl ?_
   refine VC.cond_dec rfl (fun h10 => ?_) (fun h10 => ?_)
   ·
    replace hS := it_t h10 hS
    refine VC.skip_mt (decide (c_0.verb = [114, 101, 98, 97, 115, 101])) [1, 3, 5, 10] (fun _ _ h => h) hS rfl
   replace hS := it_f h10 hS
   refine Zr ?_
   refine Zs ?_
   refine Za ?_
   refine VL.mt (decide (c_0.verb = [114, 101, 115, 101, 116])) [1, 3, 5, 10] (fun _ _ h => h) hS rfl
  clear hS
  rintro x10_6 hS
  show VC _ _ _ _ _ [(1, ptr b1_1 0), (3, i64 (-9223372036854775808)), (5, str c_0.verb), (10, .bool x10_6)] (Mo.and Mo.tt _) (Ow.star (Blk b1_1 [str c_0.verb, str c_0.name, i64 c_0.n, str c_0.text, .bool c_0.force, c_0.todo.val] 91) (Ow.emp))
  refine VC.cond rfl (fun h10 => ?_) (fun h10 => ?_)
  ·
   replace hS := it_t h10 hS
   refine Zr ?_
   refine Za ?_
   refine VL.mt 1 [1, 3] (fun _ _ h => h) hS rfl
  replace hS := it_b h10 hS
  refine Zq (Zr ?_)
  refine Zs ?_
  refine Za ?_
  refine Zl ?_
  refine VC.cond_dec rfl (fun h15 => ?_) (fun h15 => ?_)
  ·
   replace hS := it_t h15 hS
   refine Zq (Zr ?_)
   refine VL.q (q_field gfa91_1 rfl) (by decide) ?_
   refine VL.q (q_fe gone9 rfl rfl) (by decide) ?_
   refine Zs ?_
   refine Zl ?_
   refine VC.cond_dec rfl (fun h19 => ?_) (fun h19 => ?_)
   ·
    replace hS := it_t h19 hS
    refine Zr ?_
    refine Za ?_
    refine VL.mt 1 [1, 3] (fun _ _ h => h) hS rfl
   replace hS := it_f h19 hS
   refine VC.skip_mt (-9223372036854775808) [1, 3] (fun _ _ h => h) hS rfl
  replace hS := it_f h15 hS
  refine VC.skip_mt (-9223372036854775808) [1, 3] (fun _ _ h => h) hS rfl
 clear hS
 rintro least3_2 hS
 show VC _ _ _ _ _ [(1, ptr b1_1 0), (3, i64 least3_2)] (Mo.and Mo.tt _) (Ow.star (Blk b1_1 [str c_0.verb, str c_0.name, i64 c_0.n, str c_0.text, .bool c_0.force, c_0.todo.val] 91) (Ow.emp))
 refine Zq (Zq (Zr ?_))
 refine VL.q (q_field gfa91_2 rfl) (by decide) ?_
 refine VL.q (q_fe gone3 rfl rfl) (by decide) ?_
 refine Zm ?_
 refine VL.q (q_lss rfl rfl) (by decide) ?_
 refine Zl ?_
 refine VC.cond_dec rfl (fun h23 => ?_) (fun h23 => ?_)
 ·
  replace hS := it_t h23 hS
  refine Zq (Zr ?_)
  refine Za ?_
  refine Zl ?_
  cases hS
  exact Ze
 replace hS := it_f h23 hS
 refine Zk ?_
 refine Zq (Zr ?_)
 refine Za ?_
 refine Zl ?_
 cases hS
 exact Ze
theorem rectoref17_Lines_ct (s_0 : Str) {r : List Str} (hS : Sh.rectoref17_Lines s_0 = some r) :
 Ct Tryz.prog 211 [str s_0] Mo.tt (Ow.emp) (X := Sv Str) (fun x => x.val) (fun x => r = x.l) (fun x => Mo.tt) (fun x => Sv.own x 9) := by
 refine Ct.of Tryz.func211 rfl (by kernel_rfl) Tryz.ntmps211 (by simp) fun c => ?_
 unfold Sh.rectoref17_Lines at hS
 refine Zq (Zr ?_)
 refine Za ?_
 refine Zl ?_
 refine Zq (Zr ?_)
 refine VL.litO (α := Str) (xs := [.const (str [])]) (vs := [str []]) [[]] Tryz.underlying32 glit9 (by decide) rfl rfl rfl rfl (by decide) (by decide) (fun s5_1 hs5_1 => ?_) (by decide)
 replace hS := lt_to hs5_1 hS
 refine Za ?_
 refine Zl ?_
 refine Zq (Zq (Zr ?_))
 refine Za ?_
 refine Zl ?_
 refine Zb ?_
 refine VC.iter (S := Sv Str × Int) (fun sg => (sg.1.l, sg.2)) (fun sg => [(0, str s_0), (3, sg.1.val), (4, i64 sg.2)]) (fun sg => Mo.tt) (fun sg => Ow.star (Sv.own sg.1 9) (Ow.emp)) (s5_1, 0) [0, 3, 4] hS rfl ?_
 clear hS
 rintro ⟨out3_3, i4_4⟩ m1 y1 hS hK1
 show VC _ _ _ _ _ [(0, str s_0), (3, out3_3.val), (4, i64 i4_4)] (Mo.and Mo.tt _) (Ow.star (Sv.own out3_3 9) (Ow.emp))
 refine Zq (Zq (Zr ?_))
 refine Zm ?_
 refine Zm ?_
 refine VL.q (q_slen Tryz.underlying9 rfl) (by decide) ?_
 refine VL.q (q_lss rfl rfl) (by decide) ?_
 refine Zl ?_
 refine VC.cond_dec rfl (fun h9 => ?_) (fun h9 => ?_)
 ·
  replace hS := it_t h9 hS
  refine Zk ?_
  refine VC.cutJ (S := Sv Str) (fun (out3_5 : Sv Str) => out3_5.l) (fun (out3_5 : Sv Str) => [(0, str s_0), (3, out3_5.val), (4, i64 i4_4)]) (fun (out3_5 : Sv Str) => Mo.tt) (fun (out3_5 : Sv Str) => Ow.star (Sv.own out3_5 9) (Ow.emp)) hS ?_ ?_
  ·
   clear hS
   intro k6 hS
   refine Zb (Zq (Zq (Zr ?_)))
   refine Zm ?_
   refine Zm ?_
   obtain ⟨z14_7, nz14_7, hz14_7, hS⟩ := at_s hS
   refine VL.q (q_sidx Tryz.underlying9 rfl rfl nz14_7 hz14_7) (by decide) ?_
   refine VL.q (q_eql rfl rfl) (by decide) ?_
   refine Zl ?_
   refine VC.keep [0, 3, 4, 15] rfl ?_
   refine VC.cond_dec rfl (fun h15 => ?_) (fun h15 => ?_)
   ·
    replace hS := it_t h15 hS
    refine Zq (Zr ?_)
    refine Zm ?_
    refine VL.lit (α := Str) (xs := [.const (str [])]) (vs := [str []]) [[]] Tryz.underlying32 glit9 (by decide) rfl rfl rfl rfl (by decide) (fun _ _ _ _ => trivial) (by decide) (fun s17_8 hs17_8 => ?_) (by decide)
    replace hS := lt_to hs17_8 hS
    obtain ⟨b18, hS⟩ := gd_s hS
    refine VL.app (s := out3_3) (r := s17_8) Tryz.underlying32 gapp9 (by decide) rfl Fo.out (ap1 b18) (ap2 b18 (by decide)) (by decide) (fun s18_10 hs18_10 => ?_)
    replace hS := lt_to hs18_10 hS
    refine Za ?_
    refine Zl ?_
    refine VC.exit_mt s18_10 [0, 3, 4] (fun _ _ h => h) hS rfl
   replace hS := it_f h15 hS
   refine Zk ?_
   refine VC.draw [(0, true), (1, true), (2, true), (3, true), (4, true), (5, true), (6, true), (7, true), (8, true), (9, true), (10, true), (11, true), (12, true), (13, true), (14, true), (15, true), (16, true), (17, false)] mixed (by kernel_rfl) (by kernel_rfl) (by kernel_rfl) ?_
   refine VD.q rfl (q_move rfl) (by decide) ?_
   refine VD.q rfl (q_move rfl) (by decide) ?_
   refine VD.q rfl (q_ln (s := out3_3) Tryz.underlying32 rfl) (by decide) ?_
   obtain ⟨b22, hS⟩ := gd_s hS
   refine VD.q rfl (q_sub rfl rfl b22) (by decide) ?_
   refine VD.q rfl (q_move rfl) (by decide) ?_
   refine VD.q rfl (q_move rfl) (by decide) ?_
   refine VD.q rfl (q_ln (s := out3_3) Tryz.underlying32 rfl) (by decide) ?_
   obtain ⟨b26, hS⟩ := gd_s hS
   refine VD.q rfl (q_sub rfl rfl b26) (by decide) ?_
   obtain ⟨z27_12, nz27_12, hz27_12, hS⟩ := at_s hS
   refine VD.q rfl (q_ixo (s := out3_3) Tryz.underlying32 gsz9 rfl rfl nz27_12 (lt_of_get nz27_12 hz27_12)) (by decide) ?_
   refine VD.q rfl (q_elo (s := out3_3) 9 gone9 rfl hz27_12 rfl) (by decide) ?_
   refine VD.q rfl (q_move rfl) (by decide) ?_
   refine VD.q rfl (q_move rfl) (by decide) ?_
   refine VD.q rfl (q_move rfl) (by decide) ?_
   obtain ⟨b32, hS⟩ := gd_s hS
   refine VD.q rfl (q_add rfl rfl b32) (by decide) ?_
   obtain ⟨b33, hS⟩ := gd_s hS
   obtain ⟨y33_13, ey33_13, hS⟩ := lt_s hS
   refine VD.q rfl (q_smidE Tryz.underlying9 rfl rfl rfl b33.1 b33.2.1 b33.2.2 ey33_13) (by decide) ?_
   obtain ⟨b34, hS⟩ := gd_s hS
   obtain ⟨y34_14, ey34_14, hS⟩ := lt_s hS
   refine VD.q rfl (q_catE rfl rfl b34 ey34_14) (by decide) ?_
   obtain ⟨z35_15, nz35_15, hz35_15, hS⟩ := at_s hS
   refine VD.q rfl (q_ixo (s := out3_3) Tryz.underlying32 gsz9 rfl rfl nz35_15 (lt_of_get nz35_15 hz35_15)) (by decide) ?_
   refine VD.one rfl ?_
   refine VL.storeE (s := out3_3) (T := 9) (j := 0) (vc := [str y34_14]) (y34_14 : Str) (by decide) rfl rfl hz35_15 rfl gsz9 rfl rfl (Nat.le_of_ble_eq_true rfl) rfl (fun w16 hw16 haw16 hcw16 hvw16 hbw16 how16 => ?_)
   rw [← hvw16]
   replace hS := lt_to hw16 hS
   refine VL.back (D' := []) (by kernel_rfl) (Pend.nil) ?_
   refine VD.mt w16 [0, 3, 4] (fun _ _ h => h) hS rfl
  clear hS
  rintro out3_5 hS
  show VC _ _ _ _ _ [(0, str s_0), (3, out3_5.val), (4, i64 i4_4)] (Mo.and Mo.tt _) (Ow.star (Sv.own out3_5 9) (Ow.emp))
  refine Zr ?_
  refine Zm ?_
  obtain ⟨b11, hS⟩ := gd_s hS
  refine VL.q (q_add rfl rfl b11) (by decide) ?_
  refine Za ?_
  refine VL.rnd (out3_5, (i4_4 + 1)) [0, 3, 4] (fun _ _ h => h) (go2 hS hK1) rfl
 replace hS := it_f h9 hS
 replace hS := up2 hS hK1
 refine Zx ?_
 refine Zq (Zr ?_)
 refine Zm ?_
 refine Za ?_
 refine Zl ?_
 cases hS
 exact VC.ret (fin1 (.inr rfl) rfl rfl out3_3 rfl rfl (by (try dsimp only); exact InM.out) (by (try dsimp only); exact EntO.out))
theorem rectoref17_line_ct (s_0 : Str) {r : Bool} (hS : Sh.rectoref17_line s_0 = some r) :
 Ct Tryz.prog 189 [str s_0] Mo.tt (Ow.emp) (X := Unit) (fun _ => .bool r) (fun _ => True) (fun _ => Mo.tt) (fun _ => Ow.emp) := by
 refine Ct.of Tryz.func189 rfl (by kernel_rfl) Tryz.ntmps189 (by simp) fun c => ?_
 unfold Sh.rectoref17_line at hS
 refine Zq (Zr ?_)
 refine Za ?_
 refine Zl ?_
 refine Zq (Zr ?_)
 refine Zm ?_
 obtain ⟨y4_1, ey4_1, hS⟩ := bd_s hS
 refine VL.callO (rectoref17_Lines_ct s_0 ey4_1) rfl (by decide) ?_
 rintro q4_1_0 rfl
 try dsimp only
 refine VL.q (q_ln (s := q4_1_0) Tryz.underlying32 rfl) (by decide) ?_
 refine VL.q (q_gtr rfl rfl) (by decide) ?_
 refine Za ?_
 refine Zl ?_
 cases hS
 exact Ze
theorem rectoref17_words_ct (c_0 : Rectoref17Cmd) {r : Int} (hS : Sh.rectoref17_words c_0.pl = some r) :
 Ct Tryz.prog 108 [.agg #[str c_0.verb, str c_0.name, i64 c_0.n, str c_0.text, .bool c_0.force, c_0.todo.val]] c_0.todo.ok (Ow.emp) (X := Unit) (fun _ => i64 r) (fun _ => True) (fun _ => Mo.tt) (fun _ => Ow.emp) := by
 refine Ct.of Tryz.func108 rfl (by kernel_rfl) Tryz.ntmps108 (by simp) fun c => ?_
 unfold Sh.rectoref17_words at hS
 refine Zq (Zr ?_)
 refine VL.box (cs := [str c_0.verb, str c_0.name, i64 c_0.n, str c_0.text, .bool c_0.force, c_0.todo.val]) rfl rfl (by decide) fun b1_1 => ?_
 refine Za ?_
 refine Zl ?_
 refine Zq ?_
 refine VC.cutJ (S := Bool) (fun (x10_2 : Bool) => x10_2) (fun (x10_2 : Bool) => [(1, ptr b1_1 0), (10, .bool x10_2)]) (fun (x10_2 : Bool) => Mo.tt) (fun (x10_2 : Bool) => Ow.star (Blk b1_1 [str c_0.verb, str c_0.name, i64 c_0.n, str c_0.text, .bool c_0.force, c_0.todo.val] 91) (Ow.emp)) hS ?_ ?_
 ·
  clear hS
  intro k3 hS
  refine Zr ?_
  refine VL.q (q_field gfa91_0 rfl) (by decide) ?_
  refine VL.q (q_fe gone9 rfl rfl) (by decide) ?_
  refine VL.q (q_sne rfl rfl) (by decide) ?_
  refine Zm ?_
  refine VL.split_ndec 6 rfl (fun h6 => ?_) (fun h6 => ?_)
  ·
   replace hS := it_f h6 hS
   refine VL.gy rfl rfl (q_field gfa91_0 rfl) (by decide) ?_
   refine VL.gy rfl rfl (q_fe gone9 rfl rfl) (by decide) ?_
   refine VL.gy rfl rfl (q_sne rfl rfl) (by decide) ?_
   refine Zt ?_
   refine VL.mt (!decide (c_0.verb = [115, 116, 97, 115, 104])) [1, 10] (fun _ _ h => h) hS rfl
  replace hS := it_t h6 hS
  refine Zn ?_
  refine Zn ?_
  refine Zn ?_
  refine Zf ?_
  refine VL.mt false [1, 10] (fun _ _ h => h) hS rfl
 clear hS
 rintro x10_2 hS
 show VC _ _ _ _ _ [(1, ptr b1_1 0), (10, .bool x10_2)] (Mo.and Mo.tt _) (Ow.star (Blk b1_1 [str c_0.verb, str c_0.name, i64 c_0.n, str c_0.text, .bool c_0.force, c_0.todo.val] 91) (Ow.emp))
 refine VC.cond rfl (fun h10 => ?_) (fun h10 => ?_)
 ·
  replace hS := it_t h10 hS
  refine Zq (Zr ?_)
  refine Za ?_
  refine Zl ?_
  cases hS
  exact Ze
 replace hS := it_b h10 hS
 refine Zk ?_
 refine Zq (Zb (Zq (Zr ?_)))
 refine VL.q (q_field gfa91_3 rfl) (by decide) ?_
 refine VL.q (q_fe gone9 rfl rfl) (by decide) ?_
 refine VL.q (q_slen Tryz.underlying9 rfl) (by decide) ?_
 refine VL.q (q_gtr rfl rfl) (by decide) ?_
 refine Za ?_
 refine Zl ?_
 refine VC.cond_dec rfl (fun h11 => ?_) (fun h11 => ?_)
 ·
  replace hS := it_t h11 hS
  refine Zq (Zr ?_)
  refine Za ?_
  refine Zl ?_
  cases hS
  exact Ze
 replace hS := it_f h11 hS
 refine VC.cutJ (S := Bool) (fun (x16_4 : Bool) => x16_4) (fun (x16_4 : Bool) => [(1, ptr b1_1 0), (16, .bool x16_4)]) (fun (x16_4 : Bool) => Mo.tt) (fun (x16_4 : Bool) => Ow.star (Blk b1_1 [str c_0.verb, str c_0.name, i64 c_0.n, str c_0.text, .bool c_0.force, c_0.todo.val] 91) (Ow.emp)) hS ?_ ?_
 ·
  clear hS
  intro k5 hS
  refine Zr ?_
  refine VL.q (q_field gfa91_0 rfl) (by decide) ?_
  refine VL.q (q_fe gone9 rfl rfl) (by decide) ?_
  refine Zs ?_
  refine Zm ?_
  refine VL.split_dec 20 rfl (fun h20 => ?_) (fun h20 => ?_)
  ·
   replace hS := it_t h20 hS
   refine VL.gy rfl rfl (q_field gfa91_3 rfl) (by decide) ?_
   refine VL.gy rfl rfl (q_fe gone9 rfl rfl) (by decide) ?_
   refine VL.gy rfl rfl (q_seq rfl rfl) (by decide) ?_
   refine Zt ?_
   refine Za ?_
   refine VL.mt (decide (c_0.text = [])) [1, 16] (fun _ _ h => h) hS rfl
  replace hS := it_f h20 hS
  refine Zn ?_
  refine Zn ?_
  refine Zn ?_
  refine Zf ?_
  refine Za ?_
  refine VL.mt false [1, 16] (fun _ _ h => h) hS rfl
 clear hS
 rintro x16_4 hS
 show VC _ _ _ _ _ [(1, ptr b1_1 0), (16, .bool x16_4)] (Mo.and Mo.tt _) (Ow.star (Blk b1_1 [str c_0.verb, str c_0.name, i64 c_0.n, str c_0.text, .bool c_0.force, c_0.todo.val] 91) (Ow.emp))
 refine VC.cond rfl (fun h16 => ?_) (fun h16 => ?_)
 ·
  replace hS := it_t h16 hS
  refine Zq (Zr ?_)
  refine Za ?_
  refine Zl ?_
  cases hS
  exact Ze
 replace hS := it_b h16 hS
 refine Zq (Zr ?_)
 refine VL.q (q_field gfa91_3 rfl) (by decide) ?_
 refine VL.q (q_fe gone9 rfl rfl) (by decide) ?_
 obtain ⟨y28_6, ey28_6, hS⟩ := bd_s hS
 refine VL.q (q_call (rectoref17_line_ct c_0.text ey28_6) rfl (fun _ _ => rfl)) (by decide) ?_
 refine Za ?_
 refine Zl ?_
 refine VC.cond rfl (fun h25 => ?_) (fun h25 => ?_)
 ·
  replace hS := it_t h25 hS
  refine Zq (Zr ?_)
  refine Za ?_
  refine Zl ?_
  cases hS
  exact Ze
 replace hS := it_b h25 hS
 refine Zk ?_
 refine Zq (Zr ?_)
 refine Za ?_
 refine Zl ?_
 cases hS
 exact Ze
theorem rectoref17_Verb_ct (s_0 : Str) {r : Int} (hS : Sh.rectoref17_Verb s_0 = some r) :
 Ct Tryz.prog 190 [str s_0] Mo.tt (Ow.emp) (X := Unit) (fun _ => i64 r) (fun _ => True) (fun _ => Mo.tt) (fun _ => Ow.emp) := by
 refine Ct.of Tryz.func190 rfl (by kernel_rfl) Tryz.ntmps190 (by simp) fun c => ?_
 unfold Sh.rectoref17_Verb at hS
 refine Zq (Zr ?_)
 refine Za ?_
 refine Zl ?_
 refine Zq (Zr ?_)
 refine VL.lit (α := Str) (xs := [.const (str [112, 105, 99, 107]), .const (str [114, 101, 119, 111, 114, 100]), .const (str [101, 100, 105, 116]), .const (str [115, 113, 117, 97, 115, 104]), .const (str [102, 105, 120, 117, 112]), .const (str [100, 114, 111, 112])]) (vs := [str [112, 105, 99, 107], str [114, 101, 119, 111, 114, 100], str [101, 100, 105, 116], str [115, 113, 117, 97, 115, 104], str [102, 105, 120, 117, 112], str [100, 114, 111, 112]]) [[112, 105, 99, 107], [114, 101, 119, 111, 114, 100], [101, 100, 105, 116], [115, 113, 117, 97, 115, 104], [102, 105, 120, 117, 112], [100, 114, 111, 112]] Tryz.underlying32 glit9 (by decide) rfl rfl rfl rfl (by decide) (fun _ _ _ _ => trivial) (by decide) (fun s5_1 hs5_1 => ?_) (by decide)
 replace hS := lt_to hs5_1 hS
 refine Za ?_
 refine Zl ?_
 refine Zq (Zq (Zr ?_))
 refine Za ?_
 refine Zl ?_
 refine Zb ?_
 refine VC.iter (S := Int) (fun (i4_3 : Int) => i4_3) (fun (i4_3 : Int) => [(0, str s_0), (3, s5_1.val), (4, i64 i4_3)]) (fun (i4_3 : Int) => Mo.tt) (fun (i4_3 : Int) => Ow.emp) 0 [0, 3, 4] hS rfl ?_
 clear hS
 rintro i4_3 m1 y1 hS hK1
 show VC _ _ _ _ _ [(0, str s_0), (3, s5_1.val), (4, i64 i4_3)] (Mo.and Mo.tt _) (Ow.emp)
 refine Zq (Zq (Zr ?_))
 refine Zm ?_
 refine Zm ?_
 refine VL.q (q_ln (s := s5_1) Tryz.underlying32 rfl) (by decide) ?_
 refine VL.q (q_lss rfl rfl) (by decide) ?_
 refine Zl ?_
 refine VC.cond_dec rfl (fun h9 => ?_) (fun h9 => ?_)
 ·
  replace hS := it_t h9 hS
  refine Zk ?_
  refine Zq (Zb (Zq (Zr ?_)))
  refine Zm ?_
  refine Zm ?_
  obtain ⟨z14_4, nz14_4, hz14_4, hS⟩ := at_s hS
  refine VL.q (q_ixm (s := s5_1) Tryz.underlying32 gsz9 rfl rfl nz14_4 (lt_of_get nz14_4 hz14_4)) (by decide) ?_
  refine VL.q (q_el (s := s5_1) gone9 rfl hz14_4 rfl) (by decide) ?_
  refine Zm ?_
  refine Zs ?_
  refine Zl ?_
  refine VC.keep [0, 3, 4, 17] rfl ?_
  refine VC.cond_dec rfl (fun h17 => ?_) (fun h17 => ?_)
  ·
   replace hS := it_t h17 hS
   refine Zq (Zr ?_)
   refine Zm ?_
   refine Za ?_
   refine Zl ?_
   replace hS := up2 hS hK1
   cases hS
   exact Ze
  replace hS := it_f h17 hS
  refine Zk ?_
  refine Zr ?_
  refine Zm ?_
  obtain ⟨b11, hS⟩ := gd_s hS
  refine VL.q (q_add rfl rfl b11) (by decide) ?_
  refine Za ?_
  refine VL.rnd (i4_3 + 1) [0, 3, 4] (fun _ _ h => h) (go2 hS hK1) rfl
 replace hS := it_f h9 hS
 replace hS := up2 hS hK1
 refine Zx ?_
 refine Zq (Zr ?_)
 refine Za ?_
 refine Zl ?_
 cases hS
 exact Ze
theorem rectoref17_steps_ct (c_0 : Rectoref17Cmd) {r : Int} (hS : Sh.rectoref17_steps c_0.pl = some r) :
 Ct Tryz.prog 109 [.agg #[str c_0.verb, str c_0.name, i64 c_0.n, str c_0.text, .bool c_0.force, c_0.todo.val]] c_0.todo.ok (Ow.emp) (X := Unit) (fun _ => i64 r) (fun _ => True) (fun _ => Mo.tt) (fun _ => Ow.emp) := by
 refine Ct.of Tryz.func109 rfl (by kernel_rfl) Tryz.ntmps109 (by simp) fun c => ?_
 unfold Sh.rectoref17_steps at hS
 refine Zq (Zr ?_)
 refine VL.box (cs := [str c_0.verb, str c_0.name, i64 c_0.n, str c_0.text, .bool c_0.force, c_0.todo.val]) rfl rfl (by decide) fun b1_1 => ?_
 refine Za ?_
 refine Zl ?_
 refine Zq (Zq (Zr ?_))
 refine VL.q (q_field gfa91_0 rfl) (by decide) ?_
 refine VL.q (q_fe gone9 rfl rfl) (by decide) ?_
 refine VL.q (q_sne rfl rfl) (by decide) ?_
 refine Zl ?_
 refine VC.cond_ndec rfl (fun h7 => ?_) (fun h7 => ?_)
 ·
  replace hS := it_f h7 hS
  refine Zq (Zr ?_)
  refine Za ?_
  refine Zl ?_
  cases hS
  exact Ze
 replace hS := it_t h7 hS
 refine Zk ?_
 refine Zq (Zq (Zr ?_))
 refine VL.q (q_field gfa91_5 rfl) (by decide) ?_
 refine VL.q (q_fe gone89 rfl rfl) (by decide) ?_
 refine VL.q (q_ln (s := c_0.todo) Tryz.underlying89 rfl) (by decide) ?_
 refine VL.q (q_gtr rfl rfl) (by decide) ?_
 refine Zl ?_
 refine VC.cond_dec rfl (fun h11 => ?_) (fun h11 => ?_)
 ·
  replace hS := it_t h11 hS
  refine Zq (Zr ?_)
  refine Za ?_
  refine Zl ?_
  cases hS
  exact Ze
 replace hS := it_f h11 hS
 refine Zk ?_
 refine Zq (Zq (Zr ?_))
 refine Za ?_
 refine Zl ?_
 refine VC.keep [1, 3] rfl ?_
 refine Zb ?_
 refine VC.iter (S := Int) (fun (i3_2 : Int) => i3_2) (fun (i3_2 : Int) => [(1, ptr b1_1 0), (3, i64 i3_2)]) (fun (i3_2 : Int) => Mo.tt) (fun (i3_2 : Int) => Ow.star (Blk b1_1 [str c_0.verb, str c_0.name, i64 c_0.n, str c_0.text, .bool c_0.force, c_0.todo.val] 91) (Ow.emp)) 0 [1, 3] hS rfl ?_
 clear hS
 rintro i3_2 m1 y1 hS hK1
 show VC _ _ _ _ _ [(1, ptr b1_1 0), (3, i64 i3_2)] (Mo.and Mo.tt _) (Ow.star (Blk b1_1 [str c_0.verb, str c_0.name, i64 c_0.n, str c_0.text, .bool c_0.force, c_0.todo.val] 91) (Ow.emp))
 refine Zq (Zq (Zr ?_))
 refine Zm ?_
 refine VL.q (q_field gfa91_5 rfl) (by decide) ?_
 refine VL.q (q_fe gone89 rfl rfl) (by decide) ?_
 refine VL.q (q_ln (s := c_0.todo) Tryz.underlying89 rfl) (by decide) ?_
 refine VL.q (q_lss rfl rfl) (by decide) ?_
 refine Zl ?_
 refine VC.cond_dec rfl (fun h16 => ?_) (fun h16 => ?_)
 ·
  replace hS := it_t h16 hS
  refine Zk ?_
  refine VC.cutJ (S := Unit) (fun (_ : Unit) => ()) (fun (_ : Unit) => [(1, ptr b1_1 0), (3, i64 i3_2)]) (fun (_ : Unit) => Mo.tt) (fun (_ : Unit) => Ow.star (Blk b1_1 [str c_0.verb, str c_0.name, i64 c_0.n, str c_0.text, .bool c_0.force, c_0.todo.val] 91) (Ow.emp)) hS ?_ ?_
  ·
   clear hS
   intro k3 hS
   refine Zb (Zq (Zr ?_))
   refine VL.q (q_field gfa91_5 rfl) (by decide) ?_
   refine VL.q (q_fe gone89 rfl rfl) (by decide) ?_
   refine Zm ?_
   obtain ⟨z22_4, nz22_4, hz22_4, hS⟩ := at_s hS
   refine VL.q (q_ixm (s := c_0.todo) Tryz.underlying89 gsz204 rfl rfl nz22_4 (lt_of_get nz22_4 hz22_4)) (by decide) ?_
   refine VL.q (q_els (s := c_0.todo) gagg204 rfl rfl hz22_4) (by decide) ?_
   refine VL.alloc (cs := [str [], i64 0, str []]) (by kernel_rfl) (by decide) fun b4_5 => ?_
   refine VL.store (vc := [str z22_4.verb, i64 z22_4.commit, str z22_4.text]) (cs' := [str z22_4.verb, i64 z22_4.commit, str z22_4.text]) rfl rfl rfl gsz204 rfl rfl (Nat.le_of_ble_eq_true rfl) rfl ?_
   refine Zl ?_
   refine VC.keep [1, 3, 4] rfl ?_
   refine Zb (Zq (Zr ?_))
   refine VL.q (q_field gfa204_0 rfl) (by decide) ?_
   refine VL.q (q_fe gone9 rfl rfl) (by decide) ?_
   obtain ⟨y27_6, ey27_6, hS⟩ := bd_s hS
   refine VL.q (q_call (rectoref17_Verb_ct z22_4.verb ey27_6) rfl (fun _ _ => rfl)) (by decide) ?_
   refine VL.q (q_lss rfl rfl) (by decide) ?_
   refine Za ?_
   refine Zl ?_
   refine VC.cond_dec rfl (fun h24 => ?_) (fun h24 => ?_)
   ·
    replace hS := it_t h24 hS
    refine Zq (Zr ?_)
    refine Za ?_
    refine Zl ?_
    replace hS := up2 hS hK1
    cases hS
    exact Ze
   replace hS := it_f h24 hS
   refine VC.cutJ (S := Bool) (fun (x29_7 : Bool) => x29_7) (fun (x29_7 : Bool) => [(1, ptr b1_1 0), (3, i64 i3_2), (4, ptr b4_5 0), (29, .bool x29_7)]) (fun (x29_7 : Bool) => Mo.tt) (fun (x29_7 : Bool) => Ow.star (Blk b4_5 [str z22_4.verb, i64 z22_4.commit, str z22_4.text] 204) (Ow.star (Blk b1_1 [str c_0.verb, str c_0.name, i64 c_0.n, str c_0.text, .bool c_0.force, c_0.todo.val] 91) (Ow.emp))) hS ?_ ?_
   ·
    clear hS
    intro k8 hS
    refine Zr ?_
    refine VL.q (q_field gfa204_1 rfl) (by decide) ?_
    refine VL.q (q_fe gone3 rfl rfl) (by decide) ?_
    refine VL.q (q_lss rfl rfl) (by decide) ?_
    refine Zm ?_
    refine VL.split_dec 33 rfl (fun h33 => ?_) (fun h33 => ?_)
    ·
     replace hS := it_t h33 hS
     refine Zn ?_
     refine Zn ?_
     refine Zn ?_
     refine Zt ?_
     refine Za ?_
     refine VL.mt true [1, 3, 4, 29] (fun _ _ h => h) hS rfl
    replace hS := it_f h33 hS
    refine VL.gy rfl rfl (q_field gfa204_1 rfl) (by decide) ?_
    refine VL.gy rfl rfl (q_fe gone3 rfl rfl) (by decide) ?_
    refine VL.gy rfl rfl (q_gtr rfl rfl) (by decide) ?_
    refine Zf ?_
    refine Za ?_
    refine VL.mt (decide (1000000 < z22_4.commit)) [1, 3, 4, 29] (fun _ _ h => h) hS rfl
   clear hS
   rintro x29_7 hS
   show VC _ _ _ _ _ [(1, ptr b1_1 0), (3, i64 i3_2), (4, ptr b4_5 0), (29, .bool x29_7)] (Mo.and Mo.tt _) (Ow.star (Blk b4_5 [str z22_4.verb, i64 z22_4.commit, str z22_4.text] 204) (Ow.star (Blk b1_1 [str c_0.verb, str c_0.name, i64 c_0.n, str c_0.text, .bool c_0.force, c_0.todo.val] 91) (Ow.emp)))
   refine VC.cond rfl (fun h29 => ?_) (fun h29 => ?_)
   ·
    replace hS := it_t h29 hS
    refine Zq (Zr ?_)
    refine Za ?_
    refine Zl ?_
    replace hS := up2 hS hK1
    cases hS
    exact Ze
   replace hS := it_b h29 hS
   refine Zq (Zr ?_)
   refine VL.q (q_field gfa204_0 rfl) (by decide) ?_
   refine VL.q (q_fe gone9 rfl rfl) (by decide) ?_
   refine VL.q (q_sne rfl rfl) (by decide) ?_
   refine Za ?_
   refine Zl ?_
   refine VC.cond_ndec rfl (fun h38 => ?_) (fun h38 => ?_)
   ·
    replace hS := it_f h38 hS
    refine VC.skip_mt () [1, 3] (fun _ _ h => h) hS rfl
   replace hS := it_t h38 hS
   refine Zq (Zr ?_)
   refine VL.q (q_field gfa204_2 rfl) (by decide) ?_
   refine VL.q (q_fe gone9 rfl rfl) (by decide) ?_
   refine VL.q (q_slen Tryz.underlying9 rfl) (by decide) ?_
   refine VL.q (q_gtr rfl rfl) (by decide) ?_
   refine Za ?_
   refine Zl ?_
   refine VC.keep [1, 3, 4, 42] rfl ?_
   refine VC.cond_dec rfl (fun h42 => ?_) (fun h42 => ?_)
   ·
    replace hS := it_t h42 hS
    refine Zq (Zr ?_)
    refine Za ?_
    refine Zl ?_
    replace hS := up2 hS hK1
    cases hS
    exact Ze
   replace hS := it_f h42 hS
   refine Zq (Zr ?_)
   refine VL.q (q_field gfa204_2 rfl) (by decide) ?_
   refine VL.q (q_fe gone9 rfl rfl) (by decide) ?_
   refine Zs ?_
   refine Za ?_
   refine Zl ?_
   refine VC.cond_dec rfl (fun h47 => ?_) (fun h47 => ?_)
   ·
    replace hS := it_t h47 hS
    refine Zq (Zr ?_)
    refine Za ?_
    refine Zl ?_
    replace hS := up2 hS hK1
    cases hS
    exact Ze
   replace hS := it_f h47 hS
   refine Zq (Zr ?_)
   refine VL.q (q_field gfa204_2 rfl) (by decide) ?_
   refine VL.q (q_fe gone9 rfl rfl) (by decide) ?_
   obtain ⟨y54_9, ey54_9, hS⟩ := bd_s hS
   refine VL.q (q_call (rectoref17_line_ct z22_4.text ey54_9) rfl (fun _ _ => rfl)) (by decide) ?_
   refine Za ?_
   refine Zl ?_
   refine VC.keep [1, 3, 51] rfl ?_
   refine VC.cond rfl (fun h51 => ?_) (fun h51 => ?_)
   ·
    replace hS := it_t h51 hS
    refine Zq (Zr ?_)
    refine Za ?_
    refine Zl ?_
    replace hS := up2 hS hK1
    cases hS
    exact Ze
   replace hS := it_b h51 hS
   refine VC.skip_mt () [1, 3] (fun _ _ h => h) hS rfl
  clear hS
  rintro _ hS
  show VC _ _ _ _ _ [(1, ptr b1_1 0), (3, i64 i3_2)] (Mo.and Mo.tt _) (Ow.star (Blk b1_1 [str c_0.verb, str c_0.name, i64 c_0.n, str c_0.text, .bool c_0.force, c_0.todo.val] 91) (Ow.emp))
  refine Zr ?_
  refine Zm ?_
  obtain ⟨b18, hS⟩ := gd_s hS
  refine VL.q (q_add rfl rfl b18) (by decide) ?_
  refine Za ?_
  refine VL.rnd (i3_2 + 1) [1, 3] (fun _ _ h => h) (go2 hS hK1) rfl
 replace hS := it_f h16 hS
 replace hS := up2 hS hK1
 refine Zx ?_
 refine Zq (Zr ?_)
 refine Za ?_
 refine Zl ?_
 cases hS
 exact Ze
theorem rectoref17_CheckCmd_ct (c_0 : Rectoref17Cmd) {r : Rectoref3WrongP} (hS : Sh.rectoref17_CheckCmd c_0.pl = some r) :
 Ct Tryz.prog 40 [.agg #[str c_0.verb, str c_0.name, i64 c_0.n, str c_0.text, .bool c_0.force, c_0.todo.val]] c_0.todo.ok (Ow.emp) (X := Rectoref3Wrong) (fun x => .agg (Dat.enc x).toArray) (fun x => r = x.pl) (fun x => x.m) (fun x => Ow.emp) := by
 refine Ct.of Tryz.func40 rfl (by kernel_rfl) Tryz.ntmps40 (by simp) fun c => ?_
 unfold Sh.rectoref17_CheckCmd at hS
 refine Zq (Zr ?_)
 refine VL.box (cs := [str c_0.verb, str c_0.name, i64 c_0.n, str c_0.text, .bool c_0.force, c_0.todo.val]) rfl rfl (by decide) fun b1_1 => ?_
 refine VL.alloc (cs := [.slice none 0 0, i64 0]) (by kernel_rfl) (by decide) fun b2_2 => ?_
 refine Zl ?_
 refine Zq (Zr ?_)
 refine VL.q (q_field gfa91_0 rfl) (by decide) ?_
 refine VL.q (q_fe gone9 rfl rfl) (by decide) ?_
 obtain ⟨y8_3, ey8_3, hS⟩ := bd_s hS
 refine VL.q (q_call (rectoref17_Place_ct c_0.verb ey8_3) rfl (fun _ _ => rfl)) (by decide) ?_
 refine Za ?_
 refine Zl ?_
 refine Zq (Zq (Zr ?_))
 refine Zm ?_
 refine VL.q (q_lss rfl rfl) (by decide) ?_
 refine Zl ?_
 refine VC.cond_dec rfl (fun h10 => ?_) (fun h10 => ?_)
 ·
  replace hS := it_t h10 hS
  refine Zq (Zr ?_)
  refine Zm ?_
  obtain ⟨y12_4, ey12_4, hS⟩ := bd_s hS
  refine VL.callF (rectoref3_At_ct [99, 109, 100] y8_3 5 ey12_4) rfl (by decide) ?_
  rintro q12_4_0 rfl
  try dsimp only
  refine VL.store (vc := [q12_4_0.parts.val, i64 q12_4_0.err]) (cs' := [q12_4_0.parts.val, i64 q12_4_0.err]) rfl rfl rfl gsz77 rfl rfl (Nat.le_of_ble_eq_true rfl) rfl ?_
  refine Zl ?_
  refine VC.keep [2] rfl ?_
  cases hS
  exact VC.ret (finG (vs := [.agg #[q12_4_0.parts.val, i64 q12_4_0.err]]) (.inr rfl) rfl (RVs.cell gagg77 rfl rfl Rd.blk (RVs.nil)) ⟨q12_4_0.parts, q12_4_0.err⟩ rfl rfl (by (try dsimp only); exact InM.out) (fun _ _ => trivial))
 replace hS := it_f h10 hS
 refine Zk ?_
 refine Zq ?_
 refine VC.draw [(0, true), (1, true), (2, true), (3, true), (4, true), (5, true), (6, true), (7, true), (8, false), (9, true)] mixed (by kernel_rfl) (by kernel_rfl) (by kernel_rfl) ?_
 refine VD.q rfl (q_fes gagg91 rfl rfl) (by decide) ?_
 obtain ⟨y14_5, ey14_5, hS⟩ := bd_s hS
 refine VD.q rfl (q_call (rectoref17_name_ct (⟨c_0.verb, c_0.name, c_0.n, c_0.text, c_0.force, c_0.todo⟩ : Rectoref17Cmd) ey14_5) rfl (fun _ _ => rfl)) (by decide) ?_
 refine VD.q rfl (q_fes gagg91 rfl rfl) (by decide) ?_
 obtain ⟨y16_6, ey16_6, hS⟩ := bd_s hS
 refine VD.q rfl (q_call (rectoref17_number_ct (⟨c_0.verb, c_0.name, c_0.n, c_0.text, c_0.force, c_0.todo⟩ : Rectoref17Cmd) ey16_6) rfl (fun _ _ => rfl)) (by decide) ?_
 refine VD.q rfl (q_fes gagg91 rfl rfl) (by decide) ?_
 obtain ⟨y18_7, ey18_7, hS⟩ := bd_s hS
 refine VD.q rfl (q_call (rectoref17_words_ct (⟨c_0.verb, c_0.name, c_0.n, c_0.text, c_0.force, c_0.todo⟩ : Rectoref17Cmd) ey18_7) rfl (fun _ _ => rfl)) (by decide) ?_
 refine VD.q rfl (q_fes gagg91 rfl rfl) (by decide) ?_
 obtain ⟨y20_8, ey20_8, hS⟩ := bd_s hS
 refine VD.q rfl (q_call (rectoref17_steps_ct (⟨c_0.verb, c_0.name, c_0.n, c_0.text, c_0.force, c_0.todo⟩ : Rectoref17Cmd) ey20_8) rfl (fun _ _ => rfl)) (by decide) ?_
 refine VD.one rfl ?_
 refine VL.lit (α := Int) (xs := [.tmp 14, .tmp 16, .tmp 18, .tmp 20]) (vs := [i64 y14_5, i64 y16_6, i64 y18_7, i64 y20_8]) [y14_5, y16_6, y18_7, y20_8] Tryz.underlying60 glit3 (by decide) rfl rfl rfl rfl (by decide) (fun _ _ _ _ => trivial) (by decide) (fun s21_9 hs21_9 => ?_) (by decide)
 replace hS := lt_to hs21_9 hS
 refine VL.back (D' := []) (by kernel_rfl) (Pend.nil) ?_
 refine VD.q rfl (q_assign rfl) (by decide) ?_
 refine VD.to (fun _ _ h => h) ?_
 refine VC.keep [2, 3, 4] rfl ?_
 refine Zq (Zq (Zr ?_))
 refine Za ?_
 refine Zl ?_
 refine Zb ?_
 refine VC.iter (S := Int) (fun (i5_11 : Int) => i5_11) (fun (i5_11 : Int) => [(2, ptr b2_2 0), (3, i64 y8_3), (4, s21_9.val), (5, i64 i5_11)]) (fun (i5_11 : Int) => Mo.tt) (fun (i5_11 : Int) => Ow.star (Blk b2_2 [.slice none 0 0, i64 0] 77) (Ow.star (Blk b1_1 [str c_0.verb, str c_0.name, i64 c_0.n, str c_0.text, .bool c_0.force, c_0.todo.val] 91) (Ow.emp))) 0 [2, 3, 4, 5] hS rfl ?_
 clear hS
 rintro i5_11 m1 y1 hS hK1
 show VC _ _ _ _ _ [(2, ptr b2_2 0), (3, i64 y8_3), (4, s21_9.val), (5, i64 i5_11)] (Mo.and Mo.tt _) (Ow.star (Blk b2_2 [.slice none 0 0, i64 0] 77) (Ow.star (Blk b1_1 [str c_0.verb, str c_0.name, i64 c_0.n, str c_0.text, .bool c_0.force, c_0.todo.val] 91) (Ow.emp)))
 refine Zq (Zq (Zr ?_))
 refine Zm ?_
 refine VL.q (q_lss rfl rfl) (by decide) ?_
 refine Zl ?_
 refine VC.cond_dec rfl (fun h23 => ?_) (fun h23 => ?_)
 ·
  replace hS := it_t h23 hS
  refine Zk ?_
  refine Zq (Zb (Zq (Zr ?_)))
  refine Zm ?_
  refine Zm ?_
  obtain ⟨z28_12, nz28_12, hz28_12, hS⟩ := at_s hS
  refine VL.q (q_ixm (s := s21_9) Tryz.underlying60 gsz3 rfl rfl nz28_12 (lt_of_get nz28_12 hz28_12)) (by decide) ?_
  refine VL.q (q_el (s := s21_9) gone3 rfl hz28_12 rfl) (by decide) ?_
  refine VL.q (q_neq rfl rfl) (by decide) ?_
  refine Zl ?_
  refine VC.cond_ndec rfl (fun h30 => ?_) (fun h30 => ?_)
  ·
   replace hS := it_f h30 hS
   refine Zq (Zr ?_)
   refine Zm ?_
   refine Zm ?_
   refine Zm ?_
   obtain ⟨z34_13, nz34_13, hz34_13, hS⟩ := at_s hS
   refine VL.q (q_ixm (s := s21_9) Tryz.underlying60 gsz3 rfl rfl nz34_13 (lt_of_get nz34_13 hz34_13)) (by decide) ?_
   refine VL.q (q_el (s := s21_9) gone3 rfl hz34_13 rfl) (by decide) ?_
   obtain ⟨y36_14, ey36_14, hS⟩ := bd_s hS
   refine VL.callF (rectoref3_At_ct [99, 109, 100] y8_3 z34_13 ey36_14) rfl (by decide) ?_
   rintro q36_14_0 rfl
   try dsimp only
   refine VL.store (vc := [q36_14_0.parts.val, i64 q36_14_0.err]) (cs' := [q36_14_0.parts.val, i64 q36_14_0.err]) rfl rfl rfl gsz77 rfl rfl (Nat.le_of_ble_eq_true rfl) rfl ?_
   refine Zl ?_
   refine VC.keep [2] rfl ?_
   replace hS := up2 hS hK1
   cases hS
   exact VC.ret (finG (vs := [.agg #[q36_14_0.parts.val, i64 q36_14_0.err]]) (.inr rfl) rfl (RVs.cell gagg77 rfl rfl Rd.blk (RVs.nil)) ⟨q36_14_0.parts, q36_14_0.err⟩ rfl rfl (by (try dsimp only); exact InM.out) (fun _ _ => trivial))
  replace hS := it_t h30 hS
  refine Zk ?_
  refine VC.keep [2, 3, 4, 5] rfl ?_
  refine Zr ?_
  refine Zm ?_
  obtain ⟨b25, hS⟩ := gd_s hS
  refine VL.q (q_add rfl rfl b25) (by decide) ?_
  refine Za ?_
  refine VL.rnd (i5_11 + 1) [2, 3, 4, 5] (fun _ _ h => h) (go2 hS hK1) rfl
 replace hS := it_f h23 hS
 replace hS := up2 hS hK1
 refine Zx ?_
 refine Zq (Zr ?_)
 refine VL.q (q_build (vs := []) (cs := #[.slice none 0 0, i64 0]) rfl (by kernel_rfl)) (by decide) ?_
 refine VL.store (vc := [.slice none 0 0, i64 0]) (cs' := [.slice none 0 0, i64 0]) rfl rfl rfl gsz77 rfl rfl (Nat.le_of_ble_eq_true rfl) rfl ?_
 refine Zl ?_
 cases hS
 exact VC.ret (finG (vs := [.agg #[.slice none 0 0, i64 0]]) (.inr rfl) rfl (RVs.cell gagg77 rfl rfl Rd.blk (RVs.nil)) ⟨⟨none, 0, []⟩, 0⟩ rfl rfl (by (try dsimp only); exact InM.out) (fun _ _ => trivial))
theorem api_Errno_Error_ct (e_0 : Int) {r : Str} (hS : Sh.api_Errno_Error e_0 = some r) :
 Ct Tryz.prog 418 [i64 e_0] Mo.tt (Ow.emp) (X := Unit) (fun _ => str r) (fun _ => True) (fun _ => Mo.tt) (fun _ => Ow.emp) := by
 refine Ct.of Tryz.func418 rfl (by kernel_rfl) Tryz.ntmps418 (by simp) fun c => ?_
 unfold Sh.api_Errno_Error at hS
 refine Zq (Zr ?_)
 refine Za ?_
 refine Zl ?_
 refine Zq (Zq (Zr ?_))
 refine Zm ?_
 refine Zl ?_
 refine Zb (Zq (Zr ?_))
 refine VL.q (q_eql rfl rfl) (by decide) ?_
 refine Za ?_
 refine Zl ?_
 refine VC.cond_dec rfl (fun h4 => ?_) (fun h4 => ?_)
 ·
  replace hS := it_t h4 hS
  refine Zq (Zr ?_)
  refine Za ?_
  refine Zl ?_
  cases hS
  exact Ze
 replace hS := it_f h4 hS
 refine Zq (Zr ?_)
 refine VL.q (q_eql rfl rfl) (by decide) ?_
 refine Za ?_
 refine Zl ?_
 refine VC.cond_dec rfl (fun h6 => ?_) (fun h6 => ?_)
 ·
  replace hS := it_t h6 hS
  refine Zq (Zr ?_)
  refine Za ?_
  refine Zl ?_
  cases hS
  exact Ze
 replace hS := it_f h6 hS
 refine Zq (Zr ?_)
 refine VL.q (q_eql rfl rfl) (by decide) ?_
 refine Za ?_
 refine Zl ?_
 refine VC.cond_dec rfl (fun h8 => ?_) (fun h8 => ?_)
 ·
  replace hS := it_t h8 hS
  refine Zq (Zr ?_)
  refine Za ?_
  refine Zl ?_
  cases hS
  exact Ze
 replace hS := it_f h8 hS
 refine Zq (Zr ?_)
 refine VL.q (q_eql rfl rfl) (by decide) ?_
 refine Za ?_
 refine Zl ?_
 refine VC.keep [3, 10] rfl ?_
 refine VC.cond_dec rfl (fun h10 => ?_) (fun h10 => ?_)
 ·
  replace hS := it_t h10 hS
  refine Zq (Zr ?_)
  refine Za ?_
  refine Zl ?_
  cases hS
  exact Ze
 replace hS := it_f h10 hS
 refine Zq (Zr ?_)
 refine VL.q (q_eql rfl rfl) (by decide) ?_
 refine Za ?_
 refine Zl ?_
 refine VC.cond_dec rfl (fun h12 => ?_) (fun h12 => ?_)
 ·
  replace hS := it_t h12 hS
  refine Zq (Zr ?_)
  refine Za ?_
  refine Zl ?_
  cases hS
  exact Ze
 replace hS := it_f h12 hS
 refine Zq (Zr ?_)
 refine VL.q (q_eql rfl rfl) (by decide) ?_
 refine Za ?_
 refine Zl ?_
 refine VC.cond_dec rfl (fun h14 => ?_) (fun h14 => ?_)
 ·
  replace hS := it_t h14 hS
  refine Zq (Zr ?_)
  refine Za ?_
  refine Zl ?_
  cases hS
  exact Ze
 replace hS := it_f h14 hS
 refine Zq (Zr ?_)
 refine VL.q (q_eql rfl rfl) (by decide) ?_
 refine Za ?_
 refine Zl ?_
 refine VC.cond_dec rfl (fun h16 => ?_) (fun h16 => ?_)
 ·
  replace hS := it_t h16 hS
  refine Zq (Zr ?_)
  refine Za ?_
  refine Zl ?_
  cases hS
  exact Ze
 replace hS := it_f h16 hS
 refine Zq (Zr ?_)
 refine VL.q (q_eql rfl rfl) (by decide) ?_
 refine Za ?_
 refine Zl ?_
 refine VC.cond_dec rfl (fun h18 => ?_) (fun h18 => ?_)
 ·
  replace hS := it_t h18 hS
  refine Zq (Zr ?_)
  refine Za ?_
  refine Zl ?_
  refine VC.keep [2] rfl ?_
  cases hS
  exact Ze
 replace hS := it_f h18 hS
 refine Zq (Zr ?_)
 refine VL.q (q_eql rfl rfl) (by decide) ?_
 refine Za ?_
 refine Zl ?_
 refine VC.keep [3, 20] rfl ?_
 refine VC.cond_dec rfl (fun h20 => ?_) (fun h20 => ?_)
 ·
  replace hS := it_t h20 hS
  refine Zq (Zr ?_)
  refine Za ?_
  refine Zl ?_
  cases hS
  exact Ze
 replace hS := it_f h20 hS
 refine Zq (Zr ?_)
 refine VL.q (q_eql rfl rfl) (by decide) ?_
 refine Za ?_
 refine Zl ?_
 refine VC.cond_dec rfl (fun h22 => ?_) (fun h22 => ?_)
 ·
  replace hS := it_t h22 hS
  refine Zq (Zr ?_)
  refine Za ?_
  refine Zl ?_
  cases hS
  exact Ze
 replace hS := it_f h22 hS
 refine Zq (Zr ?_)
 refine VL.q (q_eql rfl rfl) (by decide) ?_
 refine Za ?_
 refine Zl ?_
 refine VC.cond_dec rfl (fun h24 => ?_) (fun h24 => ?_)
 ·
  replace hS := it_t h24 hS
  refine Zq (Zr ?_)
  refine Za ?_
  refine Zl ?_
  cases hS
  exact Ze
 replace hS := it_f h24 hS
 refine Zq (Zr ?_)
 refine VL.q (q_eql rfl rfl) (by decide) ?_
 refine Za ?_
 refine Zl ?_
 refine VC.cond_dec rfl (fun h26 => ?_) (fun h26 => ?_)
 ·
  replace hS := it_t h26 hS
  refine Zq (Zr ?_)
  refine Za ?_
  refine Zl ?_
  cases hS
  exact Ze
 replace hS := it_f h26 hS
 refine Zq (Zr ?_)
 refine VL.q (q_eql rfl rfl) (by decide) ?_
 refine Za ?_
 refine Zl ?_
 refine VC.cond_dec rfl (fun h28 => ?_) (fun h28 => ?_)
 ·
  replace hS := it_t h28 hS
  refine Zq (Zr ?_)
  refine Za ?_
  refine Zl ?_
  refine VC.keep [2] rfl ?_
  cases hS
  exact Ze
 replace hS := it_f h28 hS
 refine Zq (Zr ?_)
 refine VL.q (q_eql rfl rfl) (by decide) ?_
 refine Za ?_
 refine Zl ?_
 refine VC.keep [3, 30] rfl ?_
 refine VC.cond_dec rfl (fun h30 => ?_) (fun h30 => ?_)
 ·
  replace hS := it_t h30 hS
  refine Zq (Zr ?_)
  refine Za ?_
  refine Zl ?_
  cases hS
  exact Ze
 replace hS := it_f h30 hS
 refine Zq (Zr ?_)
 refine VL.q (q_eql rfl rfl) (by decide) ?_
 refine Za ?_
 refine Zl ?_
 refine VC.cond_dec rfl (fun h32 => ?_) (fun h32 => ?_)
 ·
  replace hS := it_t h32 hS
  refine Zq (Zr ?_)
  refine Za ?_
  refine Zl ?_
  cases hS
  exact Ze
 replace hS := it_f h32 hS
 refine Zk ?_
 refine Zq (Zr ?_)
 refine Za ?_
 refine Zl ?_
 cases hS
 exact Ze
theorem api_Fault_Error_ct (f_0_b : Nat) (f_0 : ApiFault) {E : Option Str} (ih : ∀ {y : Str}, E = some y → Says Tryz.prog f_0.err.val "Error" (f_0.err.ok.and Gl) (str y)) {r : Str} (hS : Sh.api_Fault_Error f_0.pl E = some r) :
 Ct Tryz.prog 416 [ptr f_0_b 0] (f_0.err.ok.and ((Cells f_0_b 0 [str f_0.part, i64 f_0.at_, f_0.err.val]).and Gl)) (Ow.emp) (X := Unit) (fun _ => str r) (fun _ => True) (fun _ => Mo.tt) (fun _ => Ow.emp) := by
 refine Ct.of Tryz.func416 rfl (by kernel_rfl) Tryz.ntmps416 (by simp) fun c => ?_
 unfold Sh.api_Fault_Error at hS
 refine Zq (Zr ?_)
 refine Za ?_
 refine Zl ?_
 refine Zq (Zq (Zr ?_))
 refine Zm ?_
 refine VL.q (q_nilCheck rfl) (by decide) ?_
 refine VL.q (q_field gfa107_2 rfl) (by decide) ?_
 refine VL.q (q_fm gone27 rfl rfl) (by decide) ?_
 refine VL.q (q_ereq Tryz.underlying27 rfl) (by decide) ?_
 refine Zl ?_
 refine VC.cond_dec rfl (fun h7 => ?_) (fun h7 => ?_)
 ·
  replace hS := it_t h7 hS
  refine Zq ?_
  refine VC.draw ((List.range 12).map fun k => (k, true)) mixed (by kernel_rfl) (by kernel_rfl) (by kernel_rfl) ?_
  refine VD.q rfl (q_move rfl) (by decide) ?_
  refine VD.q rfl (q_nilCheck rfl) (by decide) ?_
  refine VD.q rfl (q_field gfa107_0 rfl) (by decide) ?_
  refine VD.q rfl (q_fm gone9 rfl rfl) (by decide) ?_
  obtain ⟨b12, hS⟩ := gd_s hS
  obtain ⟨y12_1, ey12_1, hS⟩ := lt_s hS
  refine VD.q rfl (q_catE rfl rfl b12 ey12_1) (by decide) ?_
  refine VD.q rfl (q_move rfl) (by decide) ?_
  refine VD.q rfl (q_nilCheck rfl) (by decide) ?_
  refine VD.q rfl (q_field gfa107_1 rfl) (by decide) ?_
  refine VD.q rfl (q_fm gone3 rfl rfl) (by decide) ?_
  obtain ⟨b17, hS⟩ := gd_s hS
  refine VD.q rfl (q_call (itoa_ct f_0.at_ b17) rfl (fun _ _ => rfl)) (by decide) ?_
  obtain ⟨b18, hS⟩ := gd_s hS
  obtain ⟨y18_2, ey18_2, hS⟩ := lt_s hS
  refine VD.q rfl (q_catE rfl rfl b18 ey18_2) (by decide) ?_
  refine VD.q rfl (q_assign rfl) (by decide) ?_
  refine VD.to (fun _ _ h => h) ?_
  refine VC.keep [2] rfl ?_
  cases hS
  exact Ze
 replace hS := it_f h7 hS
 refine Zk ?_
 refine Zq ?_
 refine VC.draw ((List.range 19).map fun k => (k, true)) mixed (by kernel_rfl) (by kernel_rfl) (by kernel_rfl) ?_
 refine VD.q rfl (q_move rfl) (by decide) ?_
 refine VD.q rfl (q_nilCheck rfl) (by decide) ?_
 refine VD.q rfl (q_field gfa107_0 rfl) (by decide) ?_
 refine VD.q rfl (q_fm gone9 rfl rfl) (by decide) ?_
 obtain ⟨b23, hS⟩ := gd_s hS
 obtain ⟨y23_3, ey23_3, hS⟩ := lt_s hS
 refine VD.q rfl (q_catE rfl rfl b23 ey23_3) (by decide) ?_
 refine VD.q rfl (q_move rfl) (by decide) ?_
 refine VD.q rfl (q_nilCheck rfl) (by decide) ?_
 refine VD.q rfl (q_field gfa107_1 rfl) (by decide) ?_
 refine VD.q rfl (q_fm gone3 rfl rfl) (by decide) ?_
 obtain ⟨b28, hS⟩ := gd_s hS
 refine VD.q rfl (q_call (itoa_ct f_0.at_ b28) rfl (fun _ _ => rfl)) (by decide) ?_
 obtain ⟨b29, hS⟩ := gd_s hS
 obtain ⟨y29_4, ey29_4, hS⟩ := lt_s hS
 refine VD.q rfl (q_catE rfl rfl b29 ey29_4) (by decide) ?_
 obtain ⟨b30, hS⟩ := gd_s hS
 obtain ⟨y30_5, ey30_5, hS⟩ := lt_s hS
 refine VD.q rfl (q_catE rfl rfl b30 ey30_5) (by decide) ?_
 refine VD.q rfl (q_move rfl) (by decide) ?_
 refine VD.q rfl (q_nilCheck rfl) (by decide) ?_
 refine VD.q rfl (q_field gfa107_2 rfl) (by decide) ?_
 refine VD.q rfl (q_fm gone27 rfl rfl) (by decide) ?_
 obtain ⟨y35_6, ey35_6, hS⟩ := bd_s hS
 refine VD.q rfl (q_say rfl (ih ey35_6)) (by decide) ?_
 obtain ⟨b36, hS⟩ := gd_s hS
 obtain ⟨y36_7, ey36_7, hS⟩ := lt_s hS
 refine VD.q rfl (q_catE rfl rfl b36 ey36_7) (by decide) ?_
 refine VD.q rfl (q_assign rfl) (by decide) ?_
 refine VD.to (fun _ _ h => h) ?_
 refine VC.keep [2] rfl ?_
 cases hS
 exact Ze
theorem fault_me (v : Value) : Meth Tryz.prog (.iface 104 v) "Error" 416 v := Meth.of fun w => by kernel_rfl
theorem errno_me (v : Value) : Meth Tryz.prog (.iface 105 v) "Error" 418 v := Meth.of fun w => by kernel_rfl
theorem text_says : ∀ (z : Er) {r : Str} (h : Sh.erText z.pl = some r), Says Tryz.prog z.val "Error" (z.ok.and Gl) (str r)
  | .nil, r, h => by cases h
  | .no n, r, h => ⟨418, i64 n, errno_me _, (api_Errno_Error_ct n h).weak (fun _ _ => trivial) (fun _ q => q)⟩
  | .fault b p a e, r, h => ⟨416, ptr b 0, fault_me _, (api_Fault_Error_ct b ⟨p, a, e⟩ (E := Sh.erText e.pl) (fun q => text_says e q) h).weak (fun _ m => ⟨m.1.2, m.1.1, m.2⟩) (fun _ q => q)⟩
theorem rectoref3_Decimal_r_ct (n_0 : Int) {r : Str} (hS : Sh.rectoref3_Decimal_r n_0 = some r) :
 Ct Tryz.prog 124 [i64 n_0] Mo.tt (Ow.emp) (X := Unit) (fun _ => str r) (fun _ => True) (fun _ => Mo.tt) (fun _ => Ow.emp) := by
 refine Ct.of Tryz.func124 rfl (by kernel_rfl) Tryz.ntmps124 (by simp) fun c => ?_
 unfold Sh.rectoref3_Decimal_r at hS
 refine Zq (Zr ?_)
 refine Za ?_
 refine Zl ?_
 refine Zq (Zq (Zr ?_))
 refine Zm ?_
 refine VL.q (q_lss rfl rfl) (by decide) ?_
 refine Zl ?_
 refine VC.cond_dec rfl (fun h5 => ?_) (fun h5 => ?_)
 ·
  replace hS := it_t h5 hS
  refine Zq (Zq (Zr ?_))
  refine Zm ?_
  refine VL.q (q_eql rfl rfl) (by decide) ?_
  refine Zl ?_
  refine VC.cond_dec rfl (fun h7 => ?_) (fun h7 => ?_)
  ·
   replace hS := it_t h7 hS
   refine Zq (Zr ?_)
   refine Za ?_
   refine Zl ?_
   cases hS
   exact Ze
  replace hS := it_f h7 hS
  refine Zk ?_
  refine Zq (Zr ?_)
  refine Zm ?_
  obtain ⟨b9, hS⟩ := gd_s hS
  refine VL.q (q_sub rfl rfl b9) (by decide) ?_
  cases hS
 replace hS := it_f h5 hS
 refine Zk ?_
 refine Zq (Zr ?_)
 refine Zm ?_
 obtain ⟨b13, hS⟩ := gd_s hS
 refine VL.q (q_rem rfl rfl b13) (by decide) ?_
 obtain ⟨b14, hS⟩ := gd_s hS
 refine VL.q (q_add rfl rfl b14) (by decide) ?_
 obtain ⟨b15, hS⟩ := gd_s hS
 refine VL.q (q_conv Tryz.underlying3 Tryz.underlying5 rfl (wu8_in b15)) (by decide) ?_
 obtain ⟨b16_15, hS⟩ := gd_s hS
 obtain ⟨u16_2, eu16_2, hS⟩ := lt_s hS
 refine VL.setv 15 rfl (congrArg (Value.int .u8) (u8_z b16_15 eu16_2)) ?_
 refine VL.lit (α := UInt8) (xs := [.tmp 15]) (vs := [.int .u8 (u16_2.toNat : Int)]) [u16_2] Tryz.underlying61 glit5 (by decide) rfl rfl rfl rfl (by decide) (fun _ _ _ _ => trivial) (by decide) (fun s16_1 hs16_1 => ?_) (by decide)
 replace hS := lt_to hs16_1 hS
 refine VL.q (q_b2s (s := s16_1) Tryz.underlying61 Tryz.underlying5 Tryz.underlying9 rfl) (by decide) ?_
 refine Za ?_
 refine Zl ?_
 refine VC.keep [0, 3] rfl ?_
 refine Zq (Zb ?_)
 refine VC.iter (S := Int × Str) (fun sg => (sg.1, sg.2)) (fun sg => [(0, i64 sg.1), (3, str sg.2)]) (fun sg => Mo.tt) (fun sg => Ow.emp) (n_0, s16_1.l) [0, 3] hS rfl ?_
 clear hS
 rintro ⟨n0_4, s3_5⟩ m1 y1 hS hK1
 show VC _ _ _ _ _ [(0, i64 n0_4), (3, str s3_5)] (Mo.and Mo.tt _) (Ow.emp)
 refine Zq (Zq (Zr ?_))
 refine Zm ?_
 refine VL.q (q_geq rfl rfl) (by decide) ?_
 refine Zl ?_
 refine VC.cond_dec rfl (fun h19 => ?_) (fun h19 => ?_)
 ·
  replace hS := it_t h19 hS
  refine Zk ?_
  refine Zb (Zq (Zr ?_))
  refine Zm ?_
  obtain ⟨b21, hS⟩ := gd_s hS
  refine VL.q (q_quo rfl rfl b21.1 (wi64_in b21.2)) (by decide) ?_
  refine Za ?_
  refine Zl ?_
  refine Zr ?_
  refine Zm ?_
  obtain ⟨b23, hS⟩ := gd_s hS
  refine VL.q (q_rem rfl rfl b23) (by decide) ?_
  obtain ⟨b24, hS⟩ := gd_s hS
  refine VL.q (q_add rfl rfl b24) (by decide) ?_
  obtain ⟨b25, hS⟩ := gd_s hS
  refine VL.q (q_conv Tryz.underlying3 Tryz.underlying5 rfl (wu8_in b25)) (by decide) ?_
  obtain ⟨b26_25, hS⟩ := gd_s hS
  obtain ⟨u26_7, eu26_7, hS⟩ := lt_s hS
  refine VL.setv 25 rfl (congrArg (Value.int .u8) (u8_z b26_25 eu26_7)) ?_
  refine VL.lit (α := UInt8) (xs := [.tmp 25]) (vs := [.int .u8 (u26_7.toNat : Int)]) [u26_7] Tryz.underlying61 glit5 (by decide) rfl rfl rfl rfl (by decide) (fun _ _ _ _ => trivial) (by decide) (fun s26_6 hs26_6 => ?_) (by decide)
  replace hS := lt_to hs26_6 hS
  refine VL.q (q_b2s (s := s26_6) Tryz.underlying61 Tryz.underlying5 Tryz.underlying9 rfl) (by decide) ?_
  refine Zm ?_
  obtain ⟨b29, hS⟩ := gd_s hS
  obtain ⟨y29_9, ey29_9, hS⟩ := lt_s hS
  refine VL.q (q_catE rfl rfl b29 ey29_9) (by decide) ?_
  refine Za ?_
  refine VL.rnd ((n0_4 / 10), y29_9) [0, 3] (fun _ _ h => h) (go2 hS hK1) rfl
 replace hS := it_f h19 hS
 replace hS := up2 hS hK1
 refine Zx ?_
 refine Zq (Zr ?_)
 refine Zm ?_
 refine Za ?_
 refine Zl ?_
 cases hS
 exact Ze
theorem rectoref3_Decimal_ct (n_0 : Int) {r : Str} (hS : Sh.rectoref3_Decimal n_0 = some r) :
 Ct Tryz.prog 124 [i64 n_0] Mo.tt (Ow.emp) (X := Unit) (fun _ => str r) (fun _ => True) (fun _ => Mo.tt) (fun _ => Ow.emp) := by
 refine Ct.of Tryz.func124 rfl (by kernel_rfl) Tryz.ntmps124 (by simp) fun c => ?_
 unfold Sh.rectoref3_Decimal at hS
 refine Zq (Zr ?_)
 refine Za ?_
 refine Zl ?_
 refine Zq (Zq (Zr ?_))
 refine Zm ?_
 refine VL.q (q_lss rfl rfl) (by decide) ?_
 refine Zl ?_
 refine VC.cond_dec rfl (fun h5 => ?_) (fun h5 => ?_)
 ·
  replace hS := it_t h5 hS
  refine Zq (Zq (Zr ?_))
  refine Zm ?_
  refine VL.q (q_eql rfl rfl) (by decide) ?_
  refine Zl ?_
  refine VC.cond_dec rfl (fun h7 => ?_) (fun h7 => ?_)
  ·
   replace hS := it_t h7 hS
   refine Zq (Zr ?_)
   refine Za ?_
   refine Zl ?_
   cases hS
   exact Ze
  replace hS := it_f h7 hS
  refine Zk ?_
  refine Zq (Zr ?_)
  refine Zm ?_
  obtain ⟨b9, hS⟩ := gd_s hS
  refine VL.q (q_sub rfl rfl b9) (by decide) ?_
  obtain ⟨y10_1, ey10_1, hS⟩ := bd_s hS
  refine VL.q (q_call (rectoref3_Decimal_r_ct (0 - n_0) ey10_1) rfl (fun _ _ => rfl)) (by decide) ?_
  obtain ⟨b11, hS⟩ := gd_s hS
  obtain ⟨y11_2, ey11_2, hS⟩ := lt_s hS
  refine VL.q (q_catE rfl rfl b11 ey11_2) (by decide) ?_
  refine Za ?_
  refine Zl ?_
  cases hS
  exact Ze
 replace hS := it_f h5 hS
 refine Zk ?_
 refine Zq (Zr ?_)
 refine Zm ?_
 obtain ⟨b13, hS⟩ := gd_s hS
 refine VL.q (q_rem rfl rfl b13) (by decide) ?_
 obtain ⟨b14, hS⟩ := gd_s hS
 refine VL.q (q_add rfl rfl b14) (by decide) ?_
 obtain ⟨b15, hS⟩ := gd_s hS
 refine VL.q (q_conv Tryz.underlying3 Tryz.underlying5 rfl (wu8_in b15)) (by decide) ?_
 obtain ⟨b16_15, hS⟩ := gd_s hS
 obtain ⟨u16_4, eu16_4, hS⟩ := lt_s hS
 refine VL.setv 15 rfl (congrArg (Value.int .u8) (u8_z b16_15 eu16_4)) ?_
 refine VL.lit (α := UInt8) (xs := [.tmp 15]) (vs := [.int .u8 (u16_4.toNat : Int)]) [u16_4] Tryz.underlying61 glit5 (by decide) rfl rfl rfl rfl (by decide) (fun _ _ _ _ => trivial) (by decide) (fun s16_3 hs16_3 => ?_) (by decide)
 replace hS := lt_to hs16_3 hS
 refine VL.q (q_b2s (s := s16_3) Tryz.underlying61 Tryz.underlying5 Tryz.underlying9 rfl) (by decide) ?_
 refine Za ?_
 refine Zl ?_
 refine VC.keep [0, 3] rfl ?_
 refine Zq (Zb ?_)
 refine VC.iter (S := Int × Str) (fun sg => (sg.1, sg.2)) (fun sg => [(0, i64 sg.1), (3, str sg.2)]) (fun sg => Mo.tt) (fun sg => Ow.emp) (n_0, s16_3.l) [0, 3] hS rfl ?_
 clear hS
 rintro ⟨n0_6, s3_7⟩ m1 y1 hS hK1
 show VC _ _ _ _ _ [(0, i64 n0_6), (3, str s3_7)] (Mo.and Mo.tt _) (Ow.emp)
 refine Zq (Zq (Zr ?_))
 refine Zm ?_
 refine VL.q (q_geq rfl rfl) (by decide) ?_
 refine Zl ?_
 refine VC.cond_dec rfl (fun h19 => ?_) (fun h19 => ?_)
 ·
  replace hS := it_t h19 hS
  refine Zk ?_
  refine Zb (Zq (Zr ?_))
  refine Zm ?_
  obtain ⟨b21, hS⟩ := gd_s hS
  refine VL.q (q_quo rfl rfl b21.1 (wi64_in b21.2)) (by decide) ?_
  refine Za ?_
  refine Zl ?_
  refine Zr ?_
  refine Zm ?_
  obtain ⟨b23, hS⟩ := gd_s hS
  refine VL.q (q_rem rfl rfl b23) (by decide) ?_
  obtain ⟨b24, hS⟩ := gd_s hS
  refine VL.q (q_add rfl rfl b24) (by decide) ?_
  obtain ⟨b25, hS⟩ := gd_s hS
  refine VL.q (q_conv Tryz.underlying3 Tryz.underlying5 rfl (wu8_in b25)) (by decide) ?_
  obtain ⟨b26_25, hS⟩ := gd_s hS
  obtain ⟨u26_9, eu26_9, hS⟩ := lt_s hS
  refine VL.setv 25 rfl (congrArg (Value.int .u8) (u8_z b26_25 eu26_9)) ?_
  refine VL.lit (α := UInt8) (xs := [.tmp 25]) (vs := [.int .u8 (u26_9.toNat : Int)]) [u26_9] Tryz.underlying61 glit5 (by decide) rfl rfl rfl rfl (by decide) (fun _ _ _ _ => trivial) (by decide) (fun s26_8 hs26_8 => ?_) (by decide)
  replace hS := lt_to hs26_8 hS
  refine VL.q (q_b2s (s := s26_8) Tryz.underlying61 Tryz.underlying5 Tryz.underlying9 rfl) (by decide) ?_
  refine Zm ?_
  obtain ⟨b29, hS⟩ := gd_s hS
  obtain ⟨y29_11, ey29_11, hS⟩ := lt_s hS
  refine VL.q (q_catE rfl rfl b29 ey29_11) (by decide) ?_
  refine Za ?_
  refine VL.rnd ((n0_6 / 10), y29_11) [0, 3] (fun _ _ h => h) (go2 hS hK1) rfl
 replace hS := it_f h19 hS
 replace hS := up2 hS hK1
 refine Zx ?_
 refine Zq (Zr ?_)
 refine Zm ?_
 refine Za ?_
 refine Zl ?_
 cases hS
 exact Ze
theorem rectoref3_Word_ct (e_0 : Int) {r : Str} (hS : Sh.rectoref3_Word e_0 = some r) :
 Ct Tryz.prog 191 [i64 e_0] Mo.tt (Ow.emp) (X := Unit) (fun _ => str r) (fun _ => True) (fun _ => Mo.tt) (fun _ => Ow.emp) := by
 refine Ct.of Tryz.func191 rfl (by kernel_rfl) Tryz.ntmps191 (by simp) fun c => ?_
 unfold Sh.rectoref3_Word at hS
 refine Zq (Zr ?_)
 refine Za ?_
 refine Zl ?_
 refine Zq (Zr ?_)
 refine VL.lit (α := Str) (xs := [.const (str [111, 107]), .const (str [97, 114, 103]), .const (str [102, 111, 114, 109]), .const (str [115, 104, 111, 114, 116]), .const (str [108, 111, 110, 103]), .const (str [110, 97, 109, 101]), .const (str [116, 119, 105, 99, 101]), .const (str [115, 116, 97, 116, 101]), .const (str [100, 105, 114, 116, 121]), .const (str [99, 111, 110, 102, 108, 105, 99, 116]), .const (str [115, 97, 109, 101]), .const (str [119, 97, 121]), .const (str [115, 117, 109]), .const (str [100, 111, 119, 110]), .const (str [113, 117, 111, 116, 97])]) (vs := [str [111, 107], str [97, 114, 103], str [102, 111, 114, 109], str [115, 104, 111, 114, 116], str [108, 111, 110, 103], str [110, 97, 109, 101], str [116, 119, 105, 99, 101], str [115, 116, 97, 116, 101], str [100, 105, 114, 116, 121], str [99, 111, 110, 102, 108, 105, 99, 116], str [115, 97, 109, 101], str [119, 97, 121], str [115, 117, 109], str [100, 111, 119, 110], str [113, 117, 111, 116, 97]]) [[111, 107], [97, 114, 103], [102, 111, 114, 109], [115, 104, 111, 114, 116], [108, 111, 110, 103], [110, 97, 109, 101], [116, 119, 105, 99, 101], [115, 116, 97, 116, 101], [100, 105, 114, 116, 121], [99, 111, 110, 102, 108, 105, 99, 116], [115, 97, 109, 101], [119, 97, 121], [115, 117, 109], [100, 111, 119, 110], [113, 117, 111, 116, 97]] Tryz.underlying32 glit9 (by decide) rfl rfl rfl rfl (by decide) (fun _ _ _ _ => trivial) (by decide) (fun s4_1 hs4_1 => ?_) (by decide)
 replace hS := lt_to hs4_1 hS
 refine Za ?_
 refine Zl ?_
 refine Zq ?_
 refine VC.cutJ (S := Bool) (fun (x12_3 : Bool) => x12_3) (fun (x12_3 : Bool) => [(0, i64 e_0), (3, s4_1.val), (12, .bool x12_3)]) (fun (x12_3 : Bool) => Mo.tt) (fun (x12_3 : Bool) => Ow.emp) hS ?_ ?_
 ·
  clear hS
  intro k4 hS
  refine Zr ?_
  refine Zm ?_
  refine VL.q (q_lss rfl rfl) (by decide) ?_
  refine Zm ?_
  refine VL.split_dec 7 rfl (fun h7 => ?_) (fun h7 => ?_)
  ·
   replace hS := it_t h7 hS
   refine Zn ?_
   refine Zn ?_
   refine Zn ?_
   refine Zn ?_
   refine Zt ?_
   refine VL.mt true [0, 3, 12] (fun _ _ h => h) hS rfl
  replace hS := it_f h7 hS
  refine Zg ?_
  refine Zg ?_
  refine VL.gy rfl rfl (q_ln (s := s4_1) Tryz.underlying32 rfl) (by decide) ?_
  refine VL.gy rfl rfl (q_geq rfl rfl) (by decide) ?_
  refine Zf ?_
  refine VL.mt (decide ((s4_1.l.length : Int) ≤ e_0)) [0, 3, 12] (fun _ _ h => h) hS rfl
 clear hS
 rintro x12_3 hS
 show VC _ _ _ _ _ [(0, i64 e_0), (3, s4_1.val), (12, .bool x12_3)] (Mo.and Mo.tt _) (Ow.emp)
 refine VC.cond rfl (fun h12 => ?_) (fun h12 => ?_)
 ·
  replace hS := it_t h12 hS
  refine Zq (Zr ?_)
  refine Za ?_
  refine Zl ?_
  cases hS
  exact Ze
 replace hS := it_b h12 hS
 refine Zk ?_
 refine Zq (Zr ?_)
 refine Zm ?_
 refine Zm ?_
 obtain ⟨z15_5, nz15_5, hz15_5, hS⟩ := at_s hS
 refine VL.q (q_ixm (s := s4_1) Tryz.underlying32 gsz9 rfl rfl nz15_5 (lt_of_get nz15_5 hz15_5)) (by decide) ?_
 refine VL.q (q_el (s := s4_1) gone9 rfl hz15_5 rfl) (by decide) ?_
 refine Za ?_
 refine Zl ?_
 cases hS
 exact Ze
theorem rectoref3_Words_ct (w_0 : Rectoref3Wrong) {r : Str} (hS : Sh.rectoref3_Words w_0.pl = some r) :
 Ct Tryz.prog 111 [.agg #[w_0.parts.val, i64 w_0.err]] w_0.parts.ok (Ow.emp) (X := Unit) (fun _ => str r) (fun _ => True) (fun _ => Mo.tt) (fun _ => Ow.emp) := by
 refine Ct.of Tryz.func111 rfl (by kernel_rfl) Tryz.ntmps111 (by simp) fun c => ?_
 unfold Sh.rectoref3_Words at hS
 refine Zq (Zr ?_)
 refine VL.box (cs := [w_0.parts.val, i64 w_0.err]) rfl rfl (by decide) fun b1_1 => ?_
 refine Za ?_
 refine Zl ?_
 refine Zq (Zr ?_)
 refine Za ?_
 refine Zl ?_
 refine Zq (Zq (Zr ?_))
 refine Za ?_
 refine Zl ?_
 refine Zb ?_
 refine VC.iter (S := Str × Int) (fun sg => (sg.1, sg.2)) (fun sg => [(1, ptr b1_1 0), (3, str sg.1), (4, i64 sg.2)]) (fun sg => Mo.tt) (fun sg => Ow.star (Blk b1_1 [w_0.parts.val, i64 w_0.err] 77) (Ow.emp)) ([], 0) [1, 3, 4] hS rfl ?_
 clear hS
 rintro ⟨s3_2, i4_3⟩ m1 y1 hS hK1
 show VC _ _ _ _ _ [(1, ptr b1_1 0), (3, str s3_2), (4, i64 i4_3)] (Mo.and Mo.tt _) (Ow.star (Blk b1_1 [w_0.parts.val, i64 w_0.err] 77) (Ow.emp))
 refine Zq (Zq (Zr ?_))
 refine Zm ?_
 refine VL.q (q_field gfa77_0 rfl) (by decide) ?_
 refine VL.q (q_fe gone75 rfl rfl) (by decide) ?_
 refine VL.q (q_ln (s := w_0.parts) Tryz.underlying75 rfl) (by decide) ?_
 refine VL.q (q_lss rfl rfl) (by decide) ?_
 refine Zl ?_
 refine VC.cond_dec rfl (fun h9 => ?_) (fun h9 => ?_)
 ·
  replace hS := it_t h9 hS
  refine Zk ?_
  refine Zq (Zb ?_)
  refine VC.draw ((List.range 19).map fun k => (k, true)) mixed (by kernel_rfl) (by kernel_rfl) (by kernel_rfl) ?_
  refine VD.q rfl (q_move rfl) (by decide) ?_
  refine VD.q rfl (q_field gfa77_0 rfl) (by decide) ?_
  refine VD.q rfl (q_fe gone75 rfl rfl) (by decide) ?_
  refine VD.q rfl (q_move rfl) (by decide) ?_
  obtain ⟨z16_4, nz16_4, hz16_4, hS⟩ := at_s hS
  refine VD.q rfl (q_ixm (s := w_0.parts) Tryz.underlying75 gsz183 rfl rfl nz16_4 (lt_of_get nz16_4 hz16_4)) (by decide) ?_
  refine VD.q rfl (q_field gfa183_0 rfl) (by decide) ?_
  refine VD.q rfl (q_elf (s := w_0.parts) gone9 rfl hz16_4 rfl) (by decide) ?_
  obtain ⟨b19, hS⟩ := gd_s hS
  obtain ⟨y19_5, ey19_5, hS⟩ := lt_s hS
  refine VD.q rfl (q_catE rfl rfl b19 ey19_5) (by decide) ?_
  obtain ⟨b20, hS⟩ := gd_s hS
  obtain ⟨y20_6, ey20_6, hS⟩ := lt_s hS
  refine VD.q rfl (q_catE rfl rfl b20 ey20_6) (by decide) ?_
  refine VD.q rfl (q_field gfa77_0 rfl) (by decide) ?_
  refine VD.q rfl (q_fe gone75 rfl rfl) (by decide) ?_
  refine VD.q rfl (q_move rfl) (by decide) ?_
  obtain ⟨z24_7, nz24_7, hz24_7, hS⟩ := at_s hS
  refine VD.q rfl (q_ixm (s := w_0.parts) Tryz.underlying75 gsz183 rfl rfl nz24_7 (lt_of_get nz24_7 hz24_7)) (by decide) ?_
  refine VD.q rfl (q_field gfa183_1 rfl) (by decide) ?_
  refine VD.q rfl (q_elf (s := w_0.parts) gone3 rfl hz24_7 rfl) (by decide) ?_
  obtain ⟨y27_8, ey27_8, hS⟩ := bd_s hS
  refine VD.q rfl (q_call (rectoref3_Decimal_ct z24_7.at_ ey27_8) rfl (fun _ _ => rfl)) (by decide) ?_
  obtain ⟨b28, hS⟩ := gd_s hS
  obtain ⟨y28_9, ey28_9, hS⟩ := lt_s hS
  refine VD.q rfl (q_catE rfl rfl b28 ey28_9) (by decide) ?_
  obtain ⟨b29, hS⟩ := gd_s hS
  obtain ⟨y29_10, ey29_10, hS⟩ := lt_s hS
  refine VD.q rfl (q_catE rfl rfl b29 ey29_10) (by decide) ?_
  refine VD.q rfl (q_assign rfl) (by decide) ?_
  refine VD.to (fun _ _ h => h) ?_
  refine VC.keep [1, 3, 4] rfl ?_
  refine Zr ?_
  refine Zm ?_
  obtain ⟨b11, hS⟩ := gd_s hS
  refine VL.q (q_add rfl rfl b11) (by decide) ?_
  refine Za ?_
  refine VL.rnd (y29_10, (i4_3 + 1)) [1, 3, 4] (fun _ _ h => h) (go2 hS hK1) rfl
 replace hS := it_f h9 hS
 replace hS := up2 hS hK1
 refine Zx ?_
 refine Zq (Zr ?_)
 refine Zm ?_
 refine VL.q (q_field gfa77_1 rfl) (by decide) ?_
 refine VL.q (q_fe gone3 rfl rfl) (by decide) ?_
 obtain ⟨y33_11, ey33_11, hS⟩ := bd_s hS
 refine VL.q (q_call (rectoref3_Word_ct w_0.err ey33_11) rfl (fun _ _ => rfl)) (by decide) ?_
 obtain ⟨b34, hS⟩ := gd_s hS
 obtain ⟨y34_12, ey34_12, hS⟩ := lt_s hS
 refine VL.q (q_catE rfl rfl b34 ey34_12) (by decide) ?_
 refine Za ?_
 refine Zl ?_
 refine VC.keep [2] rfl ?_
 cases hS
 exact Ze
theorem rectolaw2_Tells_ct (err_0 : Er) (w_1 : Rectoref3Wrong) {r : Bool} (hS : Sh.rectolaw2_Tells err_0.pl w_1.pl = some r) :
 Ct Tryz.prog 42 [err_0.val, .agg #[w_1.parts.val, i64 w_1.err]] (err_0.ok.and (w_1.parts.ok.and Gl)) (Ow.emp) (X := Unit) (fun _ => .bool r) (fun _ => True) (fun _ => Mo.tt) (fun _ => Ow.emp) := by
 refine Ct.of Tryz.func42 rfl (by kernel_rfl) Tryz.ntmps42 (by simp) fun c => ?_
 unfold Sh.rectolaw2_Tells at hS
 refine Zq (Zr ?_)
 refine VL.box (cs := [w_1.parts.val, i64 w_1.err]) rfl rfl (by decide) fun b3_1 => ?_
 refine Za ?_
 refine Zl ?_
 refine Zq (Zq (Zr ?_))
 refine VL.q (q_field gfa77_1 rfl) (by decide) ?_
 refine VL.q (q_fe gone3 rfl rfl) (by decide) ?_
 refine VL.q (q_eql rfl rfl) (by decide) ?_
 refine Zl ?_
 refine VC.cond_dec rfl (fun h8 => ?_) (fun h8 => ?_)
 ·
  replace hS := it_t h8 hS
  refine Zq (Zr ?_)
  refine Zm ?_
  refine VL.q (q_ereq Tryz.underlying27 rfl) (by decide) ?_
  refine Za ?_
  refine Zl ?_
  cases hS
  exact Ze
 replace hS := it_f h8 hS
 refine Zk ?_
 refine Zq ?_
 refine VC.cutJ (S := Bool) (fun (x27_2 : Bool) => x27_2) (fun (x27_2 : Bool) => [(0, err_0.val), (3, ptr b3_1 0), (27, .bool x27_2)]) (fun (x27_2 : Bool) => Mo.tt) (fun (x27_2 : Bool) => Ow.star (Blk b3_1 [w_1.parts.val, i64 w_1.err] 77) (Ow.emp)) hS ?_ ?_
 ·
  clear hS
  intro k3 hS
  refine VC.draw ((List.range 17).map fun k => (k, true)) mixed (by kernel_rfl) (by kernel_rfl) (by kernel_rfl) ?_
  refine VD.q rfl (q_move rfl) (by decide) ?_
  refine VD.q rfl (q_ereq Tryz.underlying27 rfl) (by decide) ?_
  refine VD.q rfl (q_move rfl) (by decide) ?_
  refine VD.split_dec 13 rfl (fun h13 => ?_) (fun h13 => ?_)
  ·
   replace hS := it_t h13 hS
   refine Zd ?_
   refine Zd ?_
   refine Zd ?_
   refine Zd ?_
   refine Zd ?_
   refine VD.q rfl (q_pick_t rfl rfl) (by decide) ?_
   refine VD.q rfl (q_move rfl) (by decide) ?_
   refine Zd ?_
   refine Zd ?_
   refine Zd ?_
   refine Zd ?_
   refine Zd ?_
   refine Zd ?_
   refine VD.q rfl (q_pick_t rfl rfl) (by decide) ?_
   refine VD.mt true [0, 3, 27] (fun _ _ h => h) hS rfl
  replace hS := it_f h13 hS
  refine VD.gy rfl rfl rfl (q_move rfl) (by decide) ?_
  obtain ⟨y15_4, ey15_4, hS⟩ := bd_s hS
  refine VD.gy rfl rfl rfl (q_say rfl (text_says err_0 ey15_4)) (by decide) ?_
  refine VD.gy rfl rfl rfl (q_fes gagg77 rfl rfl) (by decide) ?_
  obtain ⟨y17_5, ey17_5, hS⟩ := bd_s hS
  refine VD.gy rfl rfl rfl (q_call (rectoref3_Words_ct w_1 ey17_5) rfl (fun _ _ => rfl)) (by decide) ?_
  refine VD.gy rfl rfl rfl (q_sne rfl rfl) (by decide) ?_
  refine VD.q rfl (q_pick_f rfl rfl) (by decide) ?_
  refine VD.q rfl (q_move rfl) (by decide) ?_
  refine VD.split_ndec 20 rfl (fun h20 => ?_) (fun h20 => ?_)
  ·
   replace hS := it_f h20 hS
   refine Zd ?_
   refine Zd ?_
   refine Zd ?_
   refine Zd ?_
   refine Zd ?_
   refine Zd ?_
   refine VD.q rfl (q_pick_t rfl rfl) (by decide) ?_
   refine VD.mt true [0, 3, 27] (fun _ _ h => h) hS rfl
  replace hS := it_t h20 hS
  refine VD.gy rfl rfl rfl (q_move rfl) (by decide) ?_
  refine VD.gy rfl rfl rfl (q_field gfa77_1 rfl) (by decide) ?_
  refine VD.gy rfl rfl rfl (q_fe gone3 rfl rfl) (by decide) ?_
  refine VD.gy rfl rfl rfl (q_mkif Tryz.underlying105 (fun _ h => by cases h) rfl) (by decide) ?_
  refine VD.gy rfl rfl rfl (q_call (is_ct err_0 w_1.err) rfl (fun _ _ => rfl)) (by decide) ?_
  refine VD.gy rfl rfl rfl (q_not rfl) (by decide) ?_
  refine VD.q rfl (q_pick_f rfl rfl) (by decide) ?_
  refine VD.mt (!decide (endNo err_0.pl = some w_1.err)) [0, 3, 27] (fun _ _ h => h) hS rfl
 clear hS
 rintro x27_2 hS
 show VC _ _ _ _ _ [(0, err_0.val), (3, ptr b3_1 0), (27, .bool x27_2)] (Mo.and Mo.tt _) (Ow.star (Blk b3_1 [w_1.parts.val, i64 w_1.err] 77) (Ow.emp))
 refine VC.cond rfl (fun h27 => ?_) (fun h27 => ?_)
 ·
  replace hS := it_t h27 hS
  refine Zq (Zr ?_)
  refine Za ?_
  refine Zl ?_
  cases hS
  exact Ze
 replace hS := it_b h27 hS
 refine Zk ?_
 refine Zq (Zq (Zr ?_))
 refine VL.q (q_field gfa77_0 rfl) (by decide) ?_
 refine VL.q (q_fe gone75 rfl rfl) (by decide) ?_
 refine VL.q (q_ln (s := w_1.parts) Tryz.underlying75 rfl) (by decide) ?_
 refine VL.q (q_eql rfl rfl) (by decide) ?_
 refine Zl ?_
 refine VC.cond_dec rfl (fun h31 => ?_) (fun h31 => ?_)
 ·
  replace hS := it_t h31 hS
  refine Zq (Zr ?_)
  refine Za ?_
  refine Zl ?_
  cases hS
  exact Ze
 replace hS := it_f h31 hS
 refine Zk ?_
 refine Zq (Zr ?_)
 refine VL.alloc (cs := [.pointer none]) (by kernel_rfl) (by decide) fun b5_6 => ?_
 refine Zl ?_
 refine Zq (Zq (Zr ?_))
 refine Zm ?_
 refine VL.q (q_mkif Tryz.underlying181 (fun _ h => by cases h) rfl) (by decide) ?_
 rcases err_0 with _ | _ | ⟨eb7, ep7, ea7, ez7⟩
 ·
  exact absurd hS (by simp [Er.pl])
 ·
  exact absurd hS (by simp [Er.pl])
 dsimp only [Er.pl] at hS
 refine VL.addM (Cells eb7 0 [str ep7, i64 ea7, ez7.val]) (fun _ m => (InM.out (X := (Er.fault eb7 ep7 ea7 ez7).ok) _ m).1) ?_
 refine VL.addM ez7.ok (fun _ m => (InM.out (X := (Er.fault eb7 ep7 ea7 ez7).ok) _ m.2).2) ?_
 refine VL.callO (As.as_ct eb7 b5_6) rfl (by decide) ?_
 rintro _ _
 refine VL.q (q_not rfl) (by decide) ?_
 refine Zm ?_
 refine VL.gy rfl rfl (q_fe gone104 rfl rfl) (by decide) ?_
 refine VL.gy rfl rfl (q_peqn Tryz.underlying104 rfl) (by decide) ?_
 refine Zf ?_
 refine Zl ?_
 refine VC.keep [3, 5, 39] rfl ?_
 refine VC.cond_f rfl ?_
 refine Zk ?_
 refine Zq ?_
 refine VC.draw ((List.range 23).map fun k => (k, true)) mixed (by kernel_rfl) (by kernel_rfl) (by kernel_rfl) ?_
 refine VD.q rfl (q_fe gone104 rfl rfl) (by decide) ?_
 refine VD.q rfl (q_nilCheck rfl) (by decide) ?_
 refine VD.q rfl (q_field gfa107_0 rfl) (by decide) ?_
 refine VD.q rfl (q_fm gone9 rfl rfl) (by decide) ?_
 refine VD.q rfl (q_field gfa77_0 rfl) (by decide) ?_
 refine VD.q rfl (q_fe gone75 rfl rfl) (by decide) ?_
 obtain ⟨z46_8, nz46_8, hz46_8, hS⟩ := at_s hS
 refine VD.q rfl (q_ixm (s := w_1.parts) Tryz.underlying75 gsz183 rfl rfl nz46_8 (lt_of_get nz46_8 hz46_8)) (by decide) ?_
 refine VD.q rfl (q_field gfa183_0 rfl) (by decide) ?_
 refine VD.q rfl (q_elf (s := w_1.parts) gone9 rfl hz46_8 rfl) (by decide) ?_
 refine VD.q rfl (q_seq rfl rfl) (by decide) ?_
 refine VD.q rfl (q_move rfl) (by decide) ?_
 refine VD.split_dec 50 rfl (fun h50 => ?_) (fun h50 => ?_)
 ·
  replace hS := it_t h50 hS
  refine VD.gy rfl rfl rfl (q_fe gone104 rfl rfl) (by decide) ?_
  refine VD.gy rfl rfl rfl (q_nilCheck rfl) (by decide) ?_
  refine VD.gy rfl rfl rfl (q_field gfa107_1 rfl) (by decide) ?_
  refine VD.gy rfl rfl rfl (q_fm gone3 rfl rfl) (by decide) ?_
  refine VD.gy rfl rfl rfl (q_field gfa77_0 rfl) (by decide) ?_
  refine VD.gy rfl rfl rfl (q_fe gone75 rfl rfl) (by decide) ?_
  obtain ⟨z57_9, nz57_9, hz57_9, hS⟩ := at_s hS
  refine VD.gy rfl rfl rfl (q_ixm (s := w_1.parts) Tryz.underlying75 gsz183 rfl rfl nz57_9 (lt_of_get nz57_9 hz57_9)) (by decide) ?_
  refine VD.gy rfl rfl rfl (q_field gfa183_1 rfl) (by decide) ?_
  refine VD.gy rfl rfl rfl (q_elf (s := w_1.parts) gone3 rfl hz57_9 rfl) (by decide) ?_
  refine VD.gy rfl rfl rfl (q_eql rfl rfl) (by decide) ?_
  refine VD.q rfl (q_pick_t rfl rfl) (by decide) ?_
  refine VD.q rfl (q_assign rfl) (by decide) ?_
  refine VD.to (fun _ _ h => h) ?_
  refine VC.keep [4] rfl ?_
  cases hS
  exact Ze
 replace hS := it_f h50 hS
 refine Zd ?_
 refine Zd ?_
 refine Zd ?_
 refine Zd ?_
 refine Zd ?_
 refine Zd ?_
 refine Zd ?_
 refine Zd ?_
 refine Zd ?_
 refine Zd ?_
 refine VD.q rfl (q_pick_f rfl rfl) (by decide) ?_
 refine VD.q rfl (q_assign rfl) (by decide) ?_
 refine VD.to (fun _ _ h => h) ?_
 refine VC.keep [4] rfl ?_
 cases hS
 exact Ze
theorem rectolaw1_texts_ct (a_0 : Sv Str) (b_1 : Sv Str) {r : Bool} (hS : Sh.rectolaw1_texts a_0.l b_1.l = some r) :
 Ct Tryz.prog 119 [a_0.val, b_1.val] (a_0.ok.and b_1.ok) (Ow.emp) (X := Unit) (fun _ => .bool r) (fun _ => True) (fun _ => Mo.tt) (fun _ => Ow.emp) := by
 refine Ct.of Tryz.func119 rfl (by kernel_rfl) Tryz.ntmps119 (by simp) fun c => ?_
 unfold Sh.rectolaw1_texts at hS
 refine Zq (Zr ?_)
 refine Za ?_
 refine Zl ?_
 refine Zq (Zq (Zr ?_))
 refine Zm ?_
 refine VL.q (q_ln (s := a_0) Tryz.underlying32 rfl) (by decide) ?_
 refine Zm ?_
 refine VL.q (q_ln (s := b_1) Tryz.underlying32 rfl) (by decide) ?_
 refine VL.q (q_neq rfl rfl) (by decide) ?_
 refine Zl ?_
 refine VC.cond_ndec rfl (fun h10 => ?_) (fun h10 => ?_)
 ·
  replace hS := it_f h10 hS
  refine Zq (Zr ?_)
  refine Za ?_
  refine Zl ?_
  cases hS
  exact Ze
 replace hS := it_t h10 hS
 refine Zk ?_
 refine Zq (Zq (Zr ?_))
 refine Za ?_
 refine Zl ?_
 refine Zb ?_
 refine VC.iter (S := Int) (fun (i5_1 : Int) => i5_1) (fun (i5_1 : Int) => [(0, a_0.val), (1, b_1.val), (5, i64 i5_1)]) (fun (i5_1 : Int) => Mo.tt) (fun (i5_1 : Int) => Ow.emp) 0 [0, 1, 5] hS rfl ?_
 clear hS
 rintro i5_1 m1 y1 hS hK1
 show VC _ _ _ _ _ [(0, a_0.val), (1, b_1.val), (5, i64 i5_1)] (Mo.and Mo.tt _) (Ow.emp)
 refine Zq (Zq (Zr ?_))
 refine Zm ?_
 refine Zm ?_
 refine VL.q (q_ln (s := a_0) Tryz.underlying32 rfl) (by decide) ?_
 refine VL.q (q_lss rfl rfl) (by decide) ?_
 refine Zl ?_
 refine VC.cond_dec rfl (fun h14 => ?_) (fun h14 => ?_)
 ·
  replace hS := it_t h14 hS
  refine Zk ?_
  refine Zq (Zb (Zq ?_))
  refine VC.draw ((List.range 9).map fun k => (k, true)) mixed (by kernel_rfl) (by kernel_rfl) (by kernel_rfl) ?_
  refine VD.q rfl (q_move rfl) (by decide) ?_
  refine VD.q rfl (q_move rfl) (by decide) ?_
  obtain ⟨z19_2, nz19_2, hz19_2, hS⟩ := at_s hS
  refine VD.q rfl (q_ixm (s := a_0) Tryz.underlying32 gsz9 rfl rfl nz19_2 (lt_of_get nz19_2 hz19_2)) (by decide) ?_
  refine VD.q rfl (q_el (s := a_0) gone9 rfl hz19_2 rfl) (by decide) ?_
  refine VD.q rfl (q_move rfl) (by decide) ?_
  refine VD.q rfl (q_move rfl) (by decide) ?_
  obtain ⟨z23_3, nz23_3, hz23_3, hS⟩ := at_s hS
  refine VD.q rfl (q_ixm (s := b_1) Tryz.underlying32 gsz9 rfl rfl nz23_3 (lt_of_get nz23_3 hz23_3)) (by decide) ?_
  refine VD.q rfl (q_el (s := b_1) gone9 rfl hz23_3 rfl) (by decide) ?_
  refine VD.q rfl (q_sne rfl rfl) (by decide) ?_
  refine VD.to (fun _ _ h => h) ?_
  refine VC.keep [0, 1, 5, 25] rfl ?_
  refine VC.cond_ndec rfl (fun h25 => ?_) (fun h25 => ?_)
  ·
   replace hS := it_f h25 hS
   refine Zq (Zr ?_)
   refine Za ?_
   refine Zl ?_
   replace hS := up2 hS hK1
   cases hS
   exact Ze
  replace hS := it_t h25 hS
  refine Zk ?_
  refine Zr ?_
  refine Zm ?_
  obtain ⟨b16, hS⟩ := gd_s hS
  refine VL.q (q_add rfl rfl b16) (by decide) ?_
  refine Za ?_
  refine VL.rnd (i5_1 + 1) [0, 1, 5] (fun _ _ h => h) (go2 hS hK1) rfl
 replace hS := it_f h14 hS
 replace hS := up2 hS hK1
 refine Zx ?_
 refine Zq (Zr ?_)
 refine Za ?_
 refine Zl ?_
 cases hS
 exact Ze
theorem rectolaw1_Texts_ct (a_0 : Sv Str) (b_1 : Sv Str) {r : Bool} (hS : Sh.rectolaw1_Texts a_0.l b_1.l = some r) :
 Ct Tryz.prog 44 [a_0.val, b_1.val] (a_0.ok.and b_1.ok) (Ow.emp) (X := Unit) (fun _ => .bool r) (fun _ => True) (fun _ => Mo.tt) (fun _ => Ow.emp) := by
 refine Ct.of Tryz.func44 rfl (by kernel_rfl) Tryz.ntmps44 (by simp) fun c => ?_
 unfold Sh.rectolaw1_Texts at hS
 refine Zq (Zr ?_)
 refine Za ?_
 refine Zl ?_
 refine Zq (Zr ?_)
 refine Zm ?_
 refine Zm ?_
 obtain ⟨y7_1, ey7_1, hS⟩ := bd_s hS
 refine VL.q (q_call (rectolaw1_texts_ct a_0 b_1 ey7_1) rfl (fun _ _ => rfl)) (by decide) ?_
 refine Za ?_
 refine Zl ?_
 cases hS
 exact Ze
theorem rectoref17_Text_ct (l_0 : Sv Rectoref17Step) {r : Str} (hS : Sh.rectoref17_Text l_0.l = some r) :
 Ct Tryz.prog 125 [l_0.val] l_0.ok (Ow.emp) (X := Unit) (fun _ => str r) (fun _ => True) (fun _ => Mo.tt) (fun _ => Ow.emp) := by
 refine Ct.of Tryz.func125 rfl (by kernel_rfl) Tryz.ntmps125 (by simp) fun c => ?_
 unfold Sh.rectoref17_Text at hS
 refine Zq (Zr ?_)
 refine Za ?_
 refine Zl ?_
 refine Zq (Zr ?_)
 refine Za ?_
 refine Zl ?_
 refine Zq (Zq (Zr ?_))
 refine Za ?_
 refine Zl ?_
 refine Zb ?_
 refine VC.iter (S := Str × Int) (fun sg => (sg.1, sg.2)) (fun sg => [(0, l_0.val), (3, str sg.1), (4, i64 sg.2)]) (fun sg => Mo.tt) (fun sg => Ow.emp) ([], 0) [0, 3, 4] hS rfl ?_
 clear hS
 rintro ⟨s3_1, i4_2⟩ m1 y1 hS hK1
 show VC _ _ _ _ _ [(0, l_0.val), (3, str s3_1), (4, i64 i4_2)] (Mo.and Mo.tt _) (Ow.emp)
 refine Zq (Zq (Zr ?_))
 refine Zm ?_
 refine Zm ?_
 refine VL.q (q_ln (s := l_0) Tryz.underlying89 rfl) (by decide) ?_
 refine VL.q (q_lss rfl rfl) (by decide) ?_
 refine Zl ?_
 refine VC.cond_dec rfl (fun h8 => ?_) (fun h8 => ?_)
 ·
  replace hS := it_t h8 hS
  refine Zk ?_
  refine Zq (Zb (Zq ?_))
  refine VC.draw ((List.range 16).map fun k => (k, true)) mixed (by kernel_rfl) (by kernel_rfl) (by kernel_rfl) ?_
  refine VD.q rfl (q_move rfl) (by decide) ?_
  refine VD.q rfl (q_move rfl) (by decide) ?_
  refine VD.q rfl (q_move rfl) (by decide) ?_
  obtain ⟨z14_3, nz14_3, hz14_3, hS⟩ := at_s hS
  refine VD.q rfl (q_ixm (s := l_0) Tryz.underlying89 gsz204 rfl rfl nz14_3 (lt_of_get nz14_3 hz14_3)) (by decide) ?_
  refine VD.q rfl (q_field gfa204_0 rfl) (by decide) ?_
  refine VD.q rfl (q_elf (s := l_0) gone9 rfl hz14_3 rfl) (by decide) ?_
  obtain ⟨b17, hS⟩ := gd_s hS
  obtain ⟨y17_4, ey17_4, hS⟩ := lt_s hS
  refine VD.q rfl (q_catE rfl rfl b17 ey17_4) (by decide) ?_
  obtain ⟨b18, hS⟩ := gd_s hS
  obtain ⟨y18_5, ey18_5, hS⟩ := lt_s hS
  refine VD.q rfl (q_catE rfl rfl b18 ey18_5) (by decide) ?_
  refine VD.q rfl (q_move rfl) (by decide) ?_
  refine VD.q rfl (q_move rfl) (by decide) ?_
  obtain ⟨z21_6, nz21_6, hz21_6, hS⟩ := at_s hS
  refine VD.q rfl (q_ixm (s := l_0) Tryz.underlying89 gsz204 rfl rfl nz21_6 (lt_of_get nz21_6 hz21_6)) (by decide) ?_
  refine VD.q rfl (q_field gfa204_1 rfl) (by decide) ?_
  refine VD.q rfl (q_elf (s := l_0) gone3 rfl hz21_6 rfl) (by decide) ?_
  obtain ⟨y24_7, ey24_7, hS⟩ := bd_s hS
  refine VD.q rfl (q_call (rectoref3_Decimal_ct z21_6.commit ey24_7) rfl (fun _ _ => rfl)) (by decide) ?_
  obtain ⟨b25, hS⟩ := gd_s hS
  obtain ⟨y25_8, ey25_8, hS⟩ := lt_s hS
  refine VD.q rfl (q_catE rfl rfl b25 ey25_8) (by decide) ?_
  refine VD.q rfl (q_assign rfl) (by decide) ?_
  refine VD.to (fun _ _ h => h) ?_
  refine VC.keep [0, 3, 4] rfl ?_
  refine VC.cutJ (S := Str) (fun (s3_9 : Str) => s3_9) (fun (s3_9 : Str) => [(0, l_0.val), (3, str s3_9), (4, i64 i4_2)]) (fun (s3_9 : Str) => Mo.tt) (fun (s3_9 : Str) => Ow.emp) hS ?_ ?_
  ·
   clear hS
   intro k10 hS
   refine Zq (Zr ?_)
   refine Zm ?_
   refine Zm ?_
   obtain ⟨z28_11, nz28_11, hz28_11, hS⟩ := at_s hS
   refine VL.q (q_ixm (s := l_0) Tryz.underlying89 gsz204 rfl rfl nz28_11 (lt_of_get nz28_11 hz28_11)) (by decide) ?_
   refine VL.q (q_field gfa204_0 rfl) (by decide) ?_
   refine VL.q (q_elf (s := l_0) gone9 rfl hz28_11 rfl) (by decide) ?_
   refine Zs ?_
   refine Zl ?_
   refine VC.cond_dec rfl (fun h31 => ?_) (fun h31 => ?_)
   ·
    replace hS := it_t h31 hS
    refine Zr ?_
    refine Zm ?_
    obtain ⟨b33, hS⟩ := gd_s hS
    obtain ⟨y33_12, ey33_12, hS⟩ := lt_s hS
    refine VL.q (q_catE rfl rfl b33 ey33_12) (by decide) ?_
    refine Zm ?_
    refine Zm ?_
    obtain ⟨z36_13, nz36_13, hz36_13, hS⟩ := at_s hS
    refine VL.q (q_ixm (s := l_0) Tryz.underlying89 gsz204 rfl rfl nz36_13 (lt_of_get nz36_13 hz36_13)) (by decide) ?_
    refine VL.q (q_field gfa204_2 rfl) (by decide) ?_
    refine VL.q (q_elf (s := l_0) gone9 rfl hz36_13 rfl) (by decide) ?_
    obtain ⟨b39, hS⟩ := gd_s hS
    obtain ⟨y39_14, ey39_14, hS⟩ := lt_s hS
    refine VL.q (q_catE rfl rfl b39 ey39_14) (by decide) ?_
    refine Za ?_
    refine VL.mt y39_14 [0, 3, 4] (fun _ _ h => h) hS rfl
   replace hS := it_f h31 hS
   refine VC.skip_mt y25_8 [0, 3, 4] (fun _ _ h => h) hS rfl
  clear hS
  rintro s3_9 hS
  show VC _ _ _ _ _ [(0, l_0.val), (3, str s3_9), (4, i64 i4_2)] (Mo.and Mo.tt _) (Ow.emp)
  refine Zr ?_
  refine Zm ?_
  obtain ⟨b41, hS⟩ := gd_s hS
  obtain ⟨y41_15, ey41_15, hS⟩ := lt_s hS
  refine VL.q (q_catE rfl rfl b41 ey41_15) (by decide) ?_
  refine Za ?_
  refine Zl ?_
  refine Zr ?_
  refine Zm ?_
  obtain ⟨b10, hS⟩ := gd_s hS
  refine VL.q (q_add rfl rfl b10) (by decide) ?_
  refine Za ?_
  refine VL.rnd (y41_15, (i4_2 + 1)) [0, 3, 4] (fun _ _ h => h) (go2 hS hK1) rfl
 replace hS := it_f h8 hS
 replace hS := up2 hS hK1
 refine Zx ?_
 refine Zq (Zr ?_)
 refine Zm ?_
 refine Za ?_
 refine Zl ?_
 cases hS
 exact Ze
theorem rectoref17_Say_ct (c_0 : Rectoref17Cmd) {r : Str} (hS : Sh.rectoref17_Say c_0.pl = some r) :
 Ct Tryz.prog 48 [.agg #[str c_0.verb, str c_0.name, i64 c_0.n, str c_0.text, .bool c_0.force, c_0.todo.val]] c_0.todo.ok (Ow.emp) (X := Unit) (fun _ => str r) (fun _ => True) (fun _ => Mo.tt) (fun _ => Ow.emp) := by
 refine Ct.of Tryz.func48 rfl (by kernel_rfl) Tryz.ntmps48 (by simp) fun c => ?_
 unfold Sh.rectoref17_Say at hS
 refine Zq (Zr ?_)
 refine VL.box (cs := [str c_0.verb, str c_0.name, i64 c_0.n, str c_0.text, .bool c_0.force, c_0.todo.val]) rfl rfl (by decide) fun b1_1 => ?_
 refine Za ?_
 refine Zl ?_
 refine Zq (Zr ?_)
 refine VL.q (q_field gfa91_0 rfl) (by decide) ?_
 refine VL.q (q_fe gone9 rfl rfl) (by decide) ?_
 refine Za ?_
 refine Zl ?_
 refine VC.cutJ (S := Str) (fun (s3_2 : Str) => s3_2) (fun (s3_2 : Str) => [(1, ptr b1_1 0), (3, str s3_2)]) (fun (s3_2 : Str) => Mo.tt) (fun (s3_2 : Str) => Ow.star (Blk b1_1 [str c_0.verb, str c_0.name, i64 c_0.n, str c_0.text, .bool c_0.force, c_0.todo.val] 91) (Ow.emp)) hS ?_ ?_
 ·
  clear hS
  intro k3 hS
  refine Zq (Zr ?_)
  refine VL.q (q_field gfa91_0 rfl) (by decide) ?_
  refine VL.q (q_fe gone9 rfl rfl) (by decide) ?_
  refine Zl ?_
  refine Zb ?_
  refine VC.cutJ (S := Bool) (fun (x8_4 : Bool) => x8_4) (fun (x8_4 : Bool) => [(1, ptr b1_1 0), (3, str c_0.verb), (8, .bool x8_4)]) (fun (x8_4 : Bool) => Mo.tt) (fun (x8_4 : Bool) => Ow.star (Blk b1_1 [str c_0.verb, str c_0.name, i64 c_0.n, str c_0.text, .bool c_0.force, c_0.todo.val] 91) (Ow.emp)) hS ?_ ?_
  ·
   clear hS
   intro k5 hS
   refine Zq (Zr ?_)
   refine Zs ?_
   refine Za ?_
   refine Zl ?_
   refine VC.cond_dec rfl (fun h8 => ?_) (fun h8 => ?_)
   ·
    replace hS := it_t h8 hS
    refine VC.skip_mt (decide (c_0.verb = [97, 100, 100])) [1, 3, 8] (fun _ _ h => h) hS rfl
   replace hS := it_f h8 hS
   refine Zq (Zr ?_)
   refine Zs ?_
   refine Za ?_
   refine Zl ?_
   refine VC.keep [1, 3, 7, 8] rfl ?_
   refine VC.cond_dec rfl (fun h8 => ?_) (fun h8 => ?_)
   ·
    replace hS := it_t h8 hS
    refine VC.skip_mt (decide (c_0.verb = [114, 109])) [1, 3, 8] (fun _ _ h => h) hS rfl
   replace hS := it_f h8 hS
   refine Zq (Zr ?_)
   refine Zs ?_
   refine Za ?_
   refine Zl ?_
   refine VC.cond_dec rfl (fun h8 => ?_) (fun h8 => ?_)
   ·
    replace hS := it_t h8 hS
    refine VC.skip_mt (decide (c_0.verb = [98, 114, 97, 110, 99, 104])) [1, 3, 8] (fun _ _ h => h) hS rfl
   replace hS := it_f h8 hS
   refine Zq (Zr ?_)
   refine Zs ?_
   refine Za ?_
   refine Zl ?_
   refine VC.cond_dec rfl (fun h8 => ?_) (fun h8 => ?_)
   ·
    replace hS := it_t h8 hS
    refine VC.skip_mt (decide (c_0.verb = [100, 101, 108, 101, 116, 101])) [1, 3, 8] (fun _ _ h => h) hS rfl
   replace hS := it_f h8 hS
   refine Zq (Zr ?_)
   refine Zs ?_
   refine Za ?_
   refine Zl ?_
   refine VC.cond_dec rfl (fun h8 => ?_) (fun h8 => ?_)
   ·
    replace hS := it_t h8 hS
    refine VC.skip_mt (decide (c_0.verb = [115, 119, 105, 116, 99, 104])) [1, 3, 8] (fun _ _ h => h) hS rfl
   replace hS := it_f h8 hS
   refine Zq (Zr ?_)
   refine Zs ?_
   refine Za ?_
   refine Zl ?_
   refine VC.cond_dec rfl (fun h8 => ?_) (fun h8 => ?_)
   ·
    replace hS := it_t h8 hS
    refine VC.skip_mt (decide (c_0.verb = [114, 101, 115, 101, 116])) [1, 3, 8] (fun _ _ h => h) hS rfl
   replace hS := it_f h8 hS
   refine Zr ?_
   refine Zs ?_
   refine Za ?_
   refine VL.mt (decide (c_0.verb = [109, 101, 114, 103, 101])) [1, 3, 8] (fun _ _ h => h) hS rfl
  clear hS
  rintro x8_4 hS
  show VC _ _ _ _ _ [(1, ptr b1_1 0), (3, str c_0.verb), (8, .bool x8_4)] (Mo.and Mo.tt _) (Ow.star (Blk b1_1 [str c_0.verb, str c_0.name, i64 c_0.n, str c_0.text, .bool c_0.force, c_0.todo.val] 91) (Ow.emp))
  refine VC.cond rfl (fun h8 => ?_) (fun h8 => ?_)
  ·
   replace hS := it_t h8 hS
   refine Zq (Zr ?_)
   refine VL.q (q_field gfa91_1 rfl) (by decide) ?_
   refine VL.q (q_fe gone9 rfl rfl) (by decide) ?_
   refine VL.q (q_sne rfl rfl) (by decide) ?_
   refine Zl ?_
   refine VC.cond_ndec rfl (fun h18 => ?_) (fun h18 => ?_)
   ·
    replace hS := it_f h18 hS
    refine Zr ?_
    refine Zm ?_
    obtain ⟨b20, hS⟩ := gd_s hS
    obtain ⟨y20_6, ey20_6, hS⟩ := lt_s hS
    refine VL.q (q_catE rfl rfl b20 ey20_6) (by decide) ?_
    refine VL.q (q_field gfa91_1 rfl) (by decide) ?_
    refine VL.q (q_fe gone9 rfl rfl) (by decide) ?_
    obtain ⟨b23, hS⟩ := gd_s hS
    obtain ⟨y23_7, ey23_7, hS⟩ := lt_s hS
    refine VL.q (q_catE rfl rfl b23 ey23_7) (by decide) ?_
    refine Za ?_
    refine VL.mt y23_7 [1, 3] (fun _ _ h => h) hS rfl
   replace hS := it_t h18 hS
   refine VC.skip_mt c_0.verb [1, 3] (fun _ _ h => h) hS rfl
  replace hS := it_b h8 hS
  refine VC.skip_mt c_0.verb [1, 3] (fun _ _ h => h) hS rfl
 clear hS
 rintro s3_2 hS
 show VC _ _ _ _ _ [(1, ptr b1_1 0), (3, str s3_2)] (Mo.and Mo.tt _) (Ow.star (Blk b1_1 [str c_0.verb, str c_0.name, i64 c_0.n, str c_0.text, .bool c_0.force, c_0.todo.val] 91) (Ow.emp))
 refine VC.cutJ (S := Str) (fun (s3_8 : Str) => s3_8) (fun (s3_8 : Str) => [(1, ptr b1_1 0), (3, str s3_8)]) (fun (s3_8 : Str) => Mo.tt) (fun (s3_8 : Str) => Ow.star (Blk b1_1 [str c_0.verb, str c_0.name, i64 c_0.n, str c_0.text, .bool c_0.force, c_0.todo.val] 91) (Ow.emp)) hS ?_ ?_
 ·
  clear hS
  intro k9 hS
  refine Zq (Zr ?_)
  refine VL.q (q_field gfa91_0 rfl) (by decide) ?_
  refine VL.q (q_fe gone9 rfl rfl) (by decide) ?_
  refine Zl ?_
  refine Zb ?_
  refine VC.cutJ (S := Bool) (fun (x26_10 : Bool) => x26_10) (fun (x26_10 : Bool) => [(1, ptr b1_1 0), (3, str s3_2), (25, str c_0.verb), (26, .bool x26_10)]) (fun (x26_10 : Bool) => Mo.tt) (fun (x26_10 : Bool) => Ow.star (Blk b1_1 [str c_0.verb, str c_0.name, i64 c_0.n, str c_0.text, .bool c_0.force, c_0.todo.val] 91) (Ow.emp)) hS ?_ ?_
  ·
   clear hS
   intro k11 hS
   refine Zq (Zr ?_)
   refine Zs ?_
   refine Za ?_
   refine Zl ?_
   refine VC.cond_dec rfl (fun h26 => ?_) (fun h26 => ?_)
   ·
    replace hS := it_t h26 hS
    refine VC.skip_mt (decide (c_0.verb = [114, 101, 115, 101, 116])) [1, 3, 25, 26] (fun _ _ h => h) hS rfl
   replace hS := it_f h26 hS
   refine Zq (Zr ?_)
   refine Zs ?_
   refine Za ?_
   refine Zl ?_
   refine VC.cond_dec rfl (fun h26 => ?_) (fun h26 => ?_)
   ·
    replace hS := it_t h26 hS
    refine VC.skip_mt (decide (c_0.verb = [112, 105, 99, 107])) [1, 3, 25, 26] (fun _ _ h => h) hS rfl
   replace hS := it_f h26 hS
   refine Zq (Zr ?_)
   refine Zs ?_
   refine Za ?_
   refine Zl ?_
   refine VC.cond_dec rfl (fun h26 => ?_) (fun h26 => ?_)
   ·
    replace hS := it_t h26 hS
    refine VC.skip_mt (decide (c_0.verb = [114, 101, 118, 101, 114, 116])) [1, 3, 25, 26] (fun _ _ h => h) hS rfl
   replace hS := it_f h26 hS
   refine Zq (Zr ?_)
   refine Zs ?_
   refine Za ?_
   refine Zl ?_
   refine VC.cond_dec rfl (fun h26 => ?_) (fun h26 => ?_)
   ·
    replace hS := it_t h26 hS
    refine VC.skip_mt (decide (c_0.verb = [112, 111, 112])) [1, 3, 25, 26] (fun _ _ h => h) hS rfl
   replace hS := it_f h26 hS
   refine Zq (Zr ?_)
   refine Zs ?_
   refine Za ?_
   refine Zl ?_
   refine VC.cond_dec rfl (fun h26 => ?_) (fun h26 => ?_)
   ·
    replace hS := it_t h26 hS
    refine VC.skip_mt (decide (c_0.verb = [97, 112, 112, 108, 121])) [1, 3, 25, 26] (fun _ _ h => h) hS rfl
   replace hS := it_f h26 hS
   refine Zq (Zr ?_)
   refine Zs ?_
   refine Za ?_
   refine Zl ?_
   refine VC.keep [1, 3, 25, 26] rfl ?_
   refine VC.cond_dec rfl (fun h26 => ?_) (fun h26 => ?_)
   ·
    replace hS := it_t h26 hS
    refine VC.skip_mt (decide (c_0.verb = [115, 104, 101, 108, 118, 101])) [1, 3, 25, 26] (fun _ _ h => h) hS rfl
   replace hS := it_f h26 hS
   refine Zr ?_
   refine Zs ?_
   refine Za ?_
   refine VL.mt (decide (c_0.verb = [114, 101, 98, 97, 115, 101])) [1, 3, 25, 26] (fun _ _ h => h) hS rfl
  clear hS
  rintro x26_10 hS
  show VC _ _ _ _ _ [(1, ptr b1_1 0), (3, str s3_2), (25, str c_0.verb), (26, .bool x26_10)] (Mo.and Mo.tt _) (Ow.star (Blk b1_1 [str c_0.verb, str c_0.name, i64 c_0.n, str c_0.text, .bool c_0.force, c_0.todo.val] 91) (Ow.emp))
  refine VC.cond rfl (fun h26 => ?_) (fun h26 => ?_)
  ·
   replace hS := it_t h26 hS
   refine Zr ?_
   refine Zm ?_
   obtain ⟨b35, hS⟩ := gd_s hS
   obtain ⟨y35_12, ey35_12, hS⟩ := lt_s hS
   refine VL.q (q_catE rfl rfl b35 ey35_12) (by decide) ?_
   refine VL.q (q_field gfa91_2 rfl) (by decide) ?_
   refine VL.q (q_fe gone3 rfl rfl) (by decide) ?_
   obtain ⟨y38_13, ey38_13, hS⟩ := bd_s hS
   refine VL.q (q_call (rectoref3_Decimal_ct c_0.n ey38_13) rfl (fun _ _ => rfl)) (by decide) ?_
   obtain ⟨b39, hS⟩ := gd_s hS
   obtain ⟨y39_14, ey39_14, hS⟩ := lt_s hS
   refine VL.q (q_catE rfl rfl b39 ey39_14) (by decide) ?_
   refine Za ?_
   refine VL.mt y39_14 [1, 3] (fun _ _ h => h) hS rfl
  replace hS := it_b h26 hS
  refine Zq (Zr ?_)
  refine Zs ?_
  refine Za ?_
  refine Zl ?_
  refine VC.cond_dec rfl (fun h40 => ?_) (fun h40 => ?_)
  ·
   replace hS := it_t h40 hS
   refine Zq (Zr ?_)
   refine VL.q (q_field gfa91_1 rfl) (by decide) ?_
   refine VL.q (q_fe gone9 rfl rfl) (by decide) ?_
   refine Zs ?_
   refine Zl ?_
   refine VC.cond_dec rfl (fun h44 => ?_) (fun h44 => ?_)
   ·
    replace hS := it_t h44 hS
    refine Zr ?_
    refine Zm ?_
    obtain ⟨b46, hS⟩ := gd_s hS
    obtain ⟨y46_15, ey46_15, hS⟩ := lt_s hS
    refine VL.q (q_catE rfl rfl b46 ey46_15) (by decide) ?_
    refine VL.q (q_field gfa91_2 rfl) (by decide) ?_
    refine VL.q (q_fe gone3 rfl rfl) (by decide) ?_
    obtain ⟨y49_16, ey49_16, hS⟩ := bd_s hS
    refine VL.q (q_call (rectoref3_Decimal_ct c_0.n ey49_16) rfl (fun _ _ => rfl)) (by decide) ?_
    obtain ⟨b50, hS⟩ := gd_s hS
    obtain ⟨y50_17, ey50_17, hS⟩ := lt_s hS
    refine VL.q (q_catE rfl rfl b50 ey50_17) (by decide) ?_
    refine Za ?_
    refine VL.mt y50_17 [1, 3] (fun _ _ h => h) hS rfl
   replace hS := it_f h44 hS
   refine VC.skip_mt s3_2 [1, 3] (fun _ _ h => h) hS rfl
  replace hS := it_f h40 hS
  refine VC.skip_mt s3_2 [1, 3] (fun _ _ h => h) hS rfl
 clear hS
 rintro s3_8 hS
 show VC _ _ _ _ _ [(1, ptr b1_1 0), (3, str s3_8)] (Mo.and Mo.tt _) (Ow.star (Blk b1_1 [str c_0.verb, str c_0.name, i64 c_0.n, str c_0.text, .bool c_0.force, c_0.todo.val] 91) (Ow.emp))
 refine VC.cutJ (S := Str) (fun (s3_18 : Str) => s3_18) (fun (s3_18 : Str) => [(1, ptr b1_1 0), (3, str s3_18)]) (fun (s3_18 : Str) => Mo.tt) (fun (s3_18 : Str) => Ow.star (Blk b1_1 [str c_0.verb, str c_0.name, i64 c_0.n, str c_0.text, .bool c_0.force, c_0.todo.val] 91) (Ow.emp)) hS ?_ ?_
 ·
  clear hS
  intro k19 hS
  refine VC.cutJ (S := Bool) (fun (x62_20 : Bool) => x62_20) (fun (x62_20 : Bool) => [(1, ptr b1_1 0), (3, str s3_8), (62, .bool x62_20)]) (fun (x62_20 : Bool) => Mo.tt) (fun (x62_20 : Bool) => Ow.star (Blk b1_1 [str c_0.verb, str c_0.name, i64 c_0.n, str c_0.text, .bool c_0.force, c_0.todo.val] 91) (Ow.emp)) hS ?_ ?_
  ·
   clear hS
   intro k21 hS
   refine Zr ?_
   refine VL.q (q_field gfa91_4 rfl) (by decide) ?_
   refine VL.q (q_fe gone4 rfl rfl) (by decide) ?_
   refine Zm ?_
   refine VL.split 53 rfl (fun h53 => ?_) (fun h53 => ?_)
   ·
    replace hS := it_t h53 hS
    refine VL.gy rfl rfl (q_field gfa91_0 rfl) (by decide) ?_
    refine VL.gy rfl rfl (q_fe gone9 rfl rfl) (by decide) ?_
    refine VL.gy rfl rfl (q_seq rfl rfl) (by decide) ?_
    refine Zg ?_
    refine VL.split_dec 57 rfl (fun h57 => ?_) (fun h57 => ?_)
    ·
     replace hS := it_t h57 hS
     refine Zn ?_
     refine Zn ?_
     refine Zn ?_
     refine VL.gy rfl rfl (q_pick_t rfl rfl) (by decide) ?_
     refine Zt ?_
     refine VL.mt true [1, 3, 62] (fun _ _ h => h) hS rfl
    replace hS := it_f h57 hS
    refine VL.gy rfl rfl (q_field gfa91_0 rfl) (by decide) ?_
    refine VL.gy rfl rfl (q_fe gone9 rfl rfl) (by decide) ?_
    refine VL.gy rfl rfl (q_seq rfl rfl) (by decide) ?_
    refine VL.gy rfl rfl (q_pick_f rfl rfl) (by decide) ?_
    refine Zt ?_
    refine VL.mt (decide (c_0.verb = [115, 119, 105, 116, 99, 104])) [1, 3, 62] (fun _ _ h => h) hS rfl
   replace hS := it_b h53 hS
   refine Zn ?_
   refine Zn ?_
   refine Zn ?_
   refine Zn ?_
   refine VL.gu rfl rfl (by decide) ?_
   refine VL.gu rfl rfl (by decide) ?_
   refine VL.gu rfl rfl (by decide) ?_
   refine Zn ?_
   refine Zf ?_
   refine VL.mt false [1, 3, 62] (fun _ _ h => h) hS rfl
  clear hS
  rintro x62_20 hS
  show VC _ _ _ _ _ [(1, ptr b1_1 0), (3, str s3_8), (62, .bool x62_20)] (Mo.and Mo.tt _) (Ow.star (Blk b1_1 [str c_0.verb, str c_0.name, i64 c_0.n, str c_0.text, .bool c_0.force, c_0.todo.val] 91) (Ow.emp))
  refine VC.cond rfl (fun h62 => ?_) (fun h62 => ?_)
  ·
   replace hS := it_t h62 hS
   refine Zr ?_
   refine Zm ?_
   obtain ⟨b64, hS⟩ := gd_s hS
   obtain ⟨y64_22, ey64_22, hS⟩ := lt_s hS
   refine VL.q (q_catE rfl rfl b64 ey64_22) (by decide) ?_
   refine Za ?_
   refine VL.mt y64_22 [1, 3] (fun _ _ h => h) hS rfl
  replace hS := it_b h62 hS
  refine VC.skip_mt s3_8 [1, 3] (fun _ _ h => h) hS rfl
 clear hS
 rintro s3_18 hS
 show VC _ _ _ _ _ [(1, ptr b1_1 0), (3, str s3_18)] (Mo.and Mo.tt _) (Ow.star (Blk b1_1 [str c_0.verb, str c_0.name, i64 c_0.n, str c_0.text, .bool c_0.force, c_0.todo.val] 91) (Ow.emp))
 refine VC.cutJ (S := Str) (fun (s3_23 : Str) => s3_23) (fun (s3_23 : Str) => [(1, ptr b1_1 0), (3, str s3_23)]) (fun (s3_23 : Str) => Mo.tt) (fun (s3_23 : Str) => Ow.star (Blk b1_1 [str c_0.verb, str c_0.name, i64 c_0.n, str c_0.text, .bool c_0.force, c_0.todo.val] 91) (Ow.emp)) hS ?_ ?_
 ·
  clear hS
  intro k24 hS
  refine VC.cutJ (S := Bool) (fun (x77_25 : Bool) => x77_25) (fun (x77_25 : Bool) => [(1, ptr b1_1 0), (3, str s3_18), (77, .bool x77_25)]) (fun (x77_25 : Bool) => Mo.tt) (fun (x77_25 : Bool) => Ow.star (Blk b1_1 [str c_0.verb, str c_0.name, i64 c_0.n, str c_0.text, .bool c_0.force, c_0.todo.val] 91) (Ow.emp)) hS ?_ ?_
  ·
   clear hS
   intro k26 hS
   refine Zr ?_
   refine VL.q (q_field gfa91_0 rfl) (by decide) ?_
   refine VL.q (q_fe gone9 rfl rfl) (by decide) ?_
   refine Zs ?_
   refine Zm ?_
   refine VL.split_dec 68 rfl (fun h68 => ?_) (fun h68 => ?_)
   ·
    replace hS := it_t h68 hS
    refine Zn ?_
    refine Zn ?_
    refine Zn ?_
    refine Zt ?_
    refine Zm ?_
    refine VL.gy rfl rfl (q_field gfa91_3 rfl) (by decide) ?_
    refine VL.gy rfl rfl (q_fe gone9 rfl rfl) (by decide) ?_
    refine VL.gy rfl rfl (q_sne rfl rfl) (by decide) ?_
    refine Zt ?_
    refine VL.mt (!decide (c_0.text = [])) [1, 3, 77] (fun _ _ h => h) hS rfl
   replace hS := it_f h68 hS
   refine VL.gy rfl rfl (q_field gfa91_0 rfl) (by decide) ?_
   refine VL.gy rfl rfl (q_fe gone9 rfl rfl) (by decide) ?_
   refine VL.gy rfl rfl (q_seq rfl rfl) (by decide) ?_
   refine Zf ?_
   refine Zm ?_
   refine VL.split_dec 73 rfl (fun h73 => ?_) (fun h73 => ?_)
   ·
    replace hS := it_t h73 hS
    refine VL.gy rfl rfl (q_field gfa91_3 rfl) (by decide) ?_
    refine VL.gy rfl rfl (q_fe gone9 rfl rfl) (by decide) ?_
    refine VL.gy rfl rfl (q_sne rfl rfl) (by decide) ?_
    refine Zt ?_
    refine VL.mt (!decide (c_0.text = [])) [1, 3, 77] (fun _ _ h => h) hS rfl
   replace hS := it_f h73 hS
   refine Zn ?_
   refine Zn ?_
   refine Zn ?_
   refine Zf ?_
   refine VL.mt false [1, 3, 77] (fun _ _ h => h) hS rfl
  clear hS
  rintro x77_25 hS
  show VC _ _ _ _ _ [(1, ptr b1_1 0), (3, str s3_18), (77, .bool x77_25)] (Mo.and Mo.tt _) (Ow.star (Blk b1_1 [str c_0.verb, str c_0.name, i64 c_0.n, str c_0.text, .bool c_0.force, c_0.todo.val] 91) (Ow.emp))
  refine VC.cond rfl (fun h77 => ?_) (fun h77 => ?_)
  ·
   replace hS := it_t h77 hS
   refine Zr ?_
   refine Zm ?_
   obtain ⟨b79, hS⟩ := gd_s hS
   obtain ⟨y79_27, ey79_27, hS⟩ := lt_s hS
   refine VL.q (q_catE rfl rfl b79 ey79_27) (by decide) ?_
   refine VL.q (q_field gfa91_3 rfl) (by decide) ?_
   refine VL.q (q_fe gone9 rfl rfl) (by decide) ?_
   obtain ⟨b82, hS⟩ := gd_s hS
   obtain ⟨y82_28, ey82_28, hS⟩ := lt_s hS
   refine VL.q (q_catE rfl rfl b82 ey82_28) (by decide) ?_
   refine Za ?_
   refine VL.mt y82_28 [1, 3] (fun _ _ h => h) hS rfl
  replace hS := it_b h77 hS
  refine VC.skip_mt s3_18 [1, 3] (fun _ _ h => h) hS rfl
 clear hS
 rintro s3_23 hS
 show VC _ _ _ _ _ [(1, ptr b1_1 0), (3, str s3_23)] (Mo.and Mo.tt _) (Ow.star (Blk b1_1 [str c_0.verb, str c_0.name, i64 c_0.n, str c_0.text, .bool c_0.force, c_0.todo.val] 91) (Ow.emp))
 refine Zq (Zq (Zr ?_))
 refine VL.q (q_field gfa91_0 rfl) (by decide) ?_
 refine VL.q (q_fe gone9 rfl rfl) (by decide) ?_
 refine Zs ?_
 refine Zl ?_
 refine VC.cond_dec rfl (fun h85 => ?_) (fun h85 => ?_)
 ·
  replace hS := it_t h85 hS
  refine Zr ?_
  refine Zm ?_
  obtain ⟨b87, hS⟩ := gd_s hS
  obtain ⟨y87_29, ey87_29, hS⟩ := lt_s hS
  refine VL.q (q_catE rfl rfl b87 ey87_29) (by decide) ?_
  refine VL.q (q_field gfa91_5 rfl) (by decide) ?_
  refine VL.q (q_fe gone89 rfl rfl) (by decide) ?_
  obtain ⟨y90_30, ey90_30, hS⟩ := bd_s hS
  refine VL.q (q_call (rectoref17_Text_ct c_0.todo ey90_30) rfl (fun _ _ => rfl)) (by decide) ?_
  obtain ⟨b91, hS⟩ := gd_s hS
  obtain ⟨y91_31, ey91_31, hS⟩ := lt_s hS
  refine VL.q (q_catE rfl rfl b91 ey91_31) (by decide) ?_
  refine Za ?_
  refine Zl ?_
  refine VC.keep [3] rfl ?_
  refine Zq (Zr ?_)
  refine Zm ?_
  refine Za ?_
  refine Zl ?_
  cases hS
  exact Ze
 replace hS := it_f h85 hS
 refine Zk ?_
 refine Zq (Zr ?_)
 refine Zm ?_
 refine Za ?_
 refine Zl ?_
 cases hS
 exact Ze
theorem rectoref17_cut_ct (s_0 : Str) (b_1 : Int) {r : Str × Str × Bool} (hS : Sh.rectoref17_cut s_0 b_1 = some r) :
 Ct Tryz.prog 129 [str s_0, .int .u8 b_1] Mo.tt (Ow.emp) (X := Unit) (fun _ => .tuple #[str r.1, str r.2.1, .bool r.2.2]) (fun _ => True) (fun _ => Mo.tt) (fun _ => Ow.emp) := by
 refine Ct.of Tryz.func129 rfl (by kernel_rfl) Tryz.ntmps129 (by simp) fun c => ?_
 unfold Sh.rectoref17_cut at hS
 refine Zq (Zr ?_)
 refine Za ?_
 refine Za ?_
 refine Za ?_
 refine Zl ?_
 refine Zq (Zq (Zr ?_))
 refine Za ?_
 refine Zl ?_
 refine Zb ?_
 refine VC.iter (S := Int) (fun (i7_1 : Int) => i7_1) (fun (i7_1 : Int) => [(0, str s_0), (1, .int .u8 b_1), (7, i64 i7_1)]) (fun (i7_1 : Int) => Mo.tt) (fun (i7_1 : Int) => Ow.emp) 0 [0, 1, 7] hS rfl ?_
 clear hS
 rintro i7_1 m1 y1 hS hK1
 show VC _ _ _ _ _ [(0, str s_0), (1, .int .u8 b_1), (7, i64 i7_1)] (Mo.and Mo.tt _) (Ow.emp)
 refine Zq (Zq (Zr ?_))
 refine Zm ?_
 refine Zm ?_
 refine VL.q (q_slen Tryz.underlying9 rfl) (by decide) ?_
 refine VL.q (q_lss rfl rfl) (by decide) ?_
 refine Zl ?_
 refine VC.cond_dec rfl (fun h11 => ?_) (fun h11 => ?_)
 ·
  replace hS := it_t h11 hS
  refine Zk ?_
  refine Zq (Zb (Zq (Zr ?_)))
  refine Zm ?_
  refine Zm ?_
  obtain ⟨z16_2, nz16_2, hz16_2, hS⟩ := at_s hS
  refine VL.q (q_sidx Tryz.underlying9 rfl rfl nz16_2 hz16_2) (by decide) ?_
  refine Zm ?_
  refine VL.q (q_eql rfl rfl) (by decide) ?_
  refine Zl ?_
  refine VC.keep [0, 1, 7, 18] rfl ?_
  refine VC.cond_dec rfl (fun h18 => ?_) (fun h18 => ?_)
  ·
   replace hS := it_t h18 hS
   refine Zq ?_
   refine VC.draw ((List.range 10).map fun k => (k, true)) mixed (by kernel_rfl) (by kernel_rfl) (by kernel_rfl) ?_
   refine VD.q rfl (q_move rfl) (by decide) ?_
   refine VD.q rfl (q_move rfl) (by decide) ?_
   obtain ⟨b21, hS⟩ := gd_s hS
   obtain ⟨y21_3, ey21_3, hS⟩ := lt_s hS
   refine VD.q rfl (q_stoE Tryz.underlying9 rfl rfl b21.1 b21.2 ey21_3) (by decide) ?_
   refine VD.q rfl (q_move rfl) (by decide) ?_
   refine VD.q rfl (q_move rfl) (by decide) ?_
   obtain ⟨b24, hS⟩ := gd_s hS
   refine VD.q rfl (q_add rfl rfl b24) (by decide) ?_
   obtain ⟨b25, hS⟩ := gd_s hS
   obtain ⟨y25_4, ey25_4, hS⟩ := lt_s hS
   refine VD.q rfl (q_sfromE Tryz.underlying9 rfl rfl b25.1 b25.2 ey25_4) (by decide) ?_
   refine VD.q rfl (q_assign rfl) (by decide) ?_
   refine VD.q rfl (q_assign rfl) (by decide) ?_
   refine VD.q rfl (q_assign rfl) (by decide) ?_
   refine VD.to (fun _ _ h => h) ?_
   refine VC.keep [4, 5, 6] rfl ?_
   replace hS := up2 hS hK1
   cases hS
   exact VC.ret (fin3 (.inr rfl) rfl rfl rfl rfl () rfl trivial (fun _ _ => trivial) (fun _ _ => trivial))
  replace hS := it_f h18 hS
  refine Zk ?_
  refine Zr ?_
  refine Zm ?_
  obtain ⟨b13, hS⟩ := gd_s hS
  refine VL.q (q_add rfl rfl b13) (by decide) ?_
  refine Za ?_
  refine VL.rnd (i7_1 + 1) [0, 1, 7] (fun _ _ h => h) (go2 hS hK1) rfl
 replace hS := it_f h11 hS
 replace hS := up2 hS hK1
 refine Zx ?_
 refine Zq (Zr ?_)
 refine Zm ?_
 refine Za ?_
 refine Za ?_
 refine Za ?_
 refine Zl ?_
 refine VC.keep [4, 5, 6] rfl ?_
 cases hS
 exact VC.ret (fin3 (.inr rfl) rfl rfl rfl rfl () rfl trivial (fun _ _ => trivial) (fun _ _ => trivial))
theorem rectoref17_fields_ct (s_0 : Str) {r : List Str} (hS : Sh.rectoref17_fields s_0 = some r) :
 Ct Tryz.prog 130 [str s_0] Mo.tt (Ow.emp) (X := Sv Str) (fun x => x.val) (fun x => r = x.l) (fun x => Mo.tt) (fun x => Sv.own x 9) := by
 refine Ct.of Tryz.func130 rfl (by kernel_rfl) Tryz.ntmps130 (by simp) fun c => ?_
 unfold Sh.rectoref17_fields at hS
 refine Zq (Zr ?_)
 refine Za ?_
 refine Zl ?_
 refine Zq (Zr ?_)
 refine Za ?_
 refine Zl ?_
 refine Zq (Zq (Zr ?_))
 refine Za ?_
 refine Zl ?_
 refine Zb ?_
 refine VC.nilO (⟨none, 0, []⟩ : Sv Str) 9 ⟨rfl, rfl⟩ ?_
 refine VC.iter (S := Str × Sv Str × Bool) (fun sg => (sg.1, sg.2.1.l, sg.2.2)) (fun sg => [(0, str sg.1), (3, sg.2.1.val), (4, .bool sg.2.2)]) (fun sg => Mo.tt) (fun sg => Ow.star (Sv.own sg.2.1 9) (Ow.emp)) (s_0, ⟨none, 0, []⟩, true) [0, 3, 4] hS rfl ?_
 clear hS
 rintro ⟨s0_1, out3_2, more4_3⟩ m1 y1 hS hK1
 show VC _ _ _ _ _ [(0, str s0_1), (3, out3_2.val), (4, .bool more4_3)] (Mo.and Mo.tt _) (Ow.star (Sv.own out3_2 9) (Ow.emp))
 refine Zq (Zq (Zr ?_))
 refine Zm ?_
 refine Zl ?_
 refine VC.cond rfl (fun h8 => ?_) (fun h8 => ?_)
 ·
  replace hS := it_t h8 hS
  refine Zk ?_
  refine Zb (Zq (Zr ?_))
  refine Zm ?_
  obtain ⟨y11_4, ey11_4, hS⟩ := bd_s hS
  refine VL.q (q_call (rectoref17_cut_ct s0_1 32 ey11_4) rfl (fun _ _ => rfl)) (by decide) ?_
  refine Zm ?_
  refine VL.q (q_extract rfl rfl) (by decide) ?_
  refine VL.q (q_extract rfl rfl) (by decide) ?_
  refine VL.q (q_extract rfl rfl) (by decide) ?_
  refine Za ?_
  refine Za ?_
  refine Za ?_
  refine Zl ?_
  refine VC.keep [3, 5, 6, 7] rfl ?_
  refine Zq (Zr ?_)
  refine Zm ?_
  refine Zm ?_
  refine VL.lit (α := Str) (xs := [.tmp 16]) (vs := [str y11_4.1]) [y11_4.1] Tryz.underlying32 glit9 (by decide) rfl rfl rfl rfl (by decide) (fun _ _ _ _ => trivial) (by decide) (fun s17_5 hs17_5 => ?_) (by decide)
  replace hS := lt_to hs17_5 hS
  obtain ⟨b18, hS⟩ := gd_s hS
  refine VL.app (s := out3_2) (r := s17_5) Tryz.underlying32 gapp9 (by decide) rfl Fo.out (ap1 b18) (ap2 b18 (by decide)) (by decide) (fun s18_7 hs18_7 => ?_)
  replace hS := lt_to hs18_7 hS
  refine Za ?_
  refine Zl ?_
  refine Zq (Zr ?_)
  refine Zm ?_
  refine Za ?_
  refine Zl ?_
  refine Zr ?_
  refine Zm ?_
  refine Za ?_
  refine VL.rnd (y11_4.2.1, s18_7, y11_4.2.2) [0, 3, 4] (fun _ _ h => h) (go2 hS hK1) rfl
 replace hS := it_b h8 hS
 replace hS := up2 hS hK1
 refine Zx ?_
 refine Zq (Zr ?_)
 refine Zm ?_
 refine Za ?_
 refine Zl ?_
 cases hS
 exact VC.ret (fin1 (.inr rfl) rfl rfl out3_2 rfl rfl (by (try dsimp only); exact InM.out) (by (try dsimp only); exact EntO.out))
theorem rectoref17_Number_ct (s_0 : Str) {r : Int} (hS : Sh.rectoref17_Number s_0 = some r) :
 Ct Tryz.prog 131 [str s_0] Mo.tt (Ow.emp) (X := Unit) (fun _ => i64 r) (fun _ => True) (fun _ => Mo.tt) (fun _ => Ow.emp) := by
 refine Ct.of Tryz.func131 rfl (by kernel_rfl) Tryz.ntmps131 (by simp) fun c => ?_
 unfold Sh.rectoref17_Number at hS
 refine Zq (Zr ?_)
 refine Za ?_
 refine Zl ?_
 refine Zq ?_
 refine VC.cutJ (S := Bool) (fun (x22_1 : Bool) => x22_1) (fun (x22_1 : Bool) => [(0, str s_0), (22, .bool x22_1)]) (fun (x22_1 : Bool) => Mo.tt) (fun (x22_1 : Bool) => Ow.emp) hS ?_ ?_
 ·
  clear hS
  intro k2 hS
  refine Zr ?_
  refine Zm ?_
  refine VL.q (q_slen Tryz.underlying9 rfl) (by decide) ?_
  refine VL.q (q_lss rfl rfl) (by decide) ?_
  refine Zm ?_
  refine VL.split_dec 8 rfl (fun h8 => ?_) (fun h8 => ?_)
  ·
   replace hS := it_t h8 hS
   refine Zn ?_
   refine Zn ?_
   refine Zn ?_
   refine Zt ?_
   refine Zm ?_
   refine Zn ?_
   refine Zn ?_
   refine Zn ?_
   refine Zn ?_
   refine VL.gu rfl rfl (by decide) ?_
   refine VL.gu rfl rfl (by decide) ?_
   refine VL.gu rfl rfl (by decide) ?_
   refine Zn ?_
   refine Zt ?_
   refine VL.mt true [0, 22] (fun _ _ h => h) hS rfl
  replace hS := it_f h8 hS
  refine Zg ?_
  refine VL.gy rfl rfl (q_slen Tryz.underlying9 rfl) (by decide) ?_
  refine VL.gy rfl rfl (q_gtr rfl rfl) (by decide) ?_
  refine Zf ?_
  refine Zm ?_
  refine VL.split_dec 13 rfl (fun h13 => ?_) (fun h13 => ?_)
  ·
   replace hS := it_t h13 hS
   refine Zn ?_
   refine Zn ?_
   refine Zn ?_
   refine Zn ?_
   refine VL.gu rfl rfl (by decide) ?_
   refine VL.gu rfl rfl (by decide) ?_
   refine VL.gu rfl rfl (by decide) ?_
   refine Zn ?_
   refine Zt ?_
   refine VL.mt true [0, 22] (fun _ _ h => h) hS rfl
  replace hS := it_f h13 hS
  refine Zg ?_
  refine VL.gy rfl rfl (q_slen Tryz.underlying9 rfl) (by decide) ?_
  refine VL.gy rfl rfl (q_gtr rfl rfl) (by decide) ?_
  refine Zg ?_
  refine VL.split_dec 17 rfl (fun h17 => ?_) (fun h17 => ?_)
  ·
   replace hS := it_t h17 hS
   refine Zg ?_
   obtain ⟨z19_3, nz19_3, hz19_3, hS⟩ := at_s hS
   refine VL.gy rfl rfl (q_sidx Tryz.underlying9 rfl rfl nz19_3 hz19_3) (by decide) ?_
   refine VL.gy rfl rfl (q_eql rfl rfl) (by decide) ?_
   refine VL.gy rfl rfl (q_pick_t rfl rfl) (by decide) ?_
   refine Zf ?_
   refine VL.mt (decide ((z19_3.toNat : Int) = 48)) [0, 22] (fun _ _ h => h) hS rfl
  replace hS := it_f h17 hS
  refine Zn ?_
  refine Zn ?_
  refine Zn ?_
  refine VL.gy rfl rfl (q_pick_f rfl rfl) (by decide) ?_
  refine Zf ?_
  refine VL.mt false [0, 22] (fun _ _ h => h) hS rfl
 clear hS
 rintro x22_1 hS
 show VC _ _ _ _ _ [(0, str s_0), (22, .bool x22_1)] (Mo.and Mo.tt _) (Ow.emp)
 refine VC.cond rfl (fun h22 => ?_) (fun h22 => ?_)
 ·
  replace hS := it_t h22 hS
  refine Zq (Zr ?_)
  refine Za ?_
  refine Zl ?_
  cases hS
  exact Ze
 replace hS := it_b h22 hS
 refine Zk ?_
 refine Zq (Zr ?_)
 refine Za ?_
 refine Zl ?_
 refine Zq (Zq (Zr ?_))
 refine Za ?_
 refine Zl ?_
 refine Zb ?_
 refine VC.iter (S := Int × Int) (fun sg => (sg.1, sg.2)) (fun sg => [(0, str s_0), (3, i64 sg.1), (4, i64 sg.2)]) (fun sg => Mo.tt) (fun sg => Ow.emp) (0, 0) [0, 3, 4] hS rfl ?_
 clear hS
 rintro ⟨n3_4, i4_5⟩ m1 y1 hS hK1
 show VC _ _ _ _ _ [(0, str s_0), (3, i64 n3_4), (4, i64 i4_5)] (Mo.and Mo.tt _) (Ow.emp)
 refine Zq (Zq (Zr ?_))
 refine Zm ?_
 refine Zm ?_
 refine VL.q (q_slen Tryz.underlying9 rfl) (by decide) ?_
 refine VL.q (q_lss rfl rfl) (by decide) ?_
 refine Zl ?_
 refine VC.cond_dec rfl (fun h26 => ?_) (fun h26 => ?_)
 ·
  replace hS := it_t h26 hS
  refine Zk ?_
  refine Zq (Zb (Zq ?_))
  refine VC.cutJ (S := Bool) (fun (x38_6 : Bool) => x38_6) (fun (x38_6 : Bool) => [(0, str s_0), (3, i64 n3_4), (4, i64 i4_5), (38, .bool x38_6)]) (fun (x38_6 : Bool) => Mo.tt) (fun (x38_6 : Bool) => Ow.emp) hS ?_ ?_
  ·
   clear hS
   intro k7 hS
   refine Zr ?_
   refine Zm ?_
   refine Zm ?_
   obtain ⟨z31_8, nz31_8, hz31_8, hS⟩ := at_s hS
   refine VL.q (q_sidx Tryz.underlying9 rfl rfl nz31_8 hz31_8) (by decide) ?_
   refine VL.q (q_lss rfl rfl) (by decide) ?_
   refine Zm ?_
   refine VL.split_dec 33 rfl (fun h33 => ?_) (fun h33 => ?_)
   ·
    replace hS := it_t h33 hS
    refine Zn ?_
    refine Zn ?_
    refine Zn ?_
    refine Zn ?_
    refine Zt ?_
    refine VL.mt true [0, 3, 4, 38] (fun _ _ h => h) hS rfl
   replace hS := it_f h33 hS
   refine Zg ?_
   refine Zg ?_
   obtain ⟨z36_9, nz36_9, hz36_9, hS⟩ := at_s hS
   refine VL.gy rfl rfl (q_sidx Tryz.underlying9 rfl rfl nz36_9 hz36_9) (by decide) ?_
   refine VL.gy rfl rfl (q_gtr rfl rfl) (by decide) ?_
   refine Zf ?_
   refine VL.mt (decide (57 < (z36_9.toNat : Int))) [0, 3, 4, 38] (fun _ _ h => h) hS rfl
  clear hS
  rintro x38_6 hS
  show VC _ _ _ _ _ [(0, str s_0), (3, i64 n3_4), (4, i64 i4_5), (38, .bool x38_6)] (Mo.and Mo.tt _) (Ow.emp)
  refine VC.cond rfl (fun h38 => ?_) (fun h38 => ?_)
  ·
   replace hS := it_t h38 hS
   refine Zq (Zr ?_)
   refine Za ?_
   refine Zl ?_
   replace hS := up2 hS hK1
   cases hS
   exact Ze
  replace hS := it_b h38 hS
  refine Zk ?_
  refine Zr ?_
  refine Zm ?_
  obtain ⟨b40, hS⟩ := gd_s hS
  refine VL.q (q_mul rfl rfl b40) (by decide) ?_
  refine Zm ?_
  refine Zm ?_
  obtain ⟨z43_10, nz43_10, hz43_10, hS⟩ := at_s hS
  refine VL.q (q_sidx Tryz.underlying9 rfl rfl nz43_10 hz43_10) (by decide) ?_
  obtain ⟨b44, hS⟩ := gd_s hS
  refine VL.q (q_subW rfl rfl (wu8_in b44)) (by decide) ?_
  refine VL.q (q_convW Tryz.underlying5 Tryz.underlying3 rfl) (by decide) ?_
  obtain ⟨b46, hS⟩ := gd_s hS
  refine VL.q (q_add rfl rfl b46) (by decide) ?_
  refine Za ?_
  refine Zl ?_
  refine VC.keep [0, 3, 4] rfl ?_
  refine Zr ?_
  refine Zm ?_
  obtain ⟨b28, hS⟩ := gd_s hS
  refine VL.q (q_add rfl rfl b28) (by decide) ?_
  refine Za ?_
  refine VL.rnd (((10 * n3_4) + (IntKind.wrap .i64 ((z43_10.toNat : Int) - 48))), (i4_5 + 1)) [0, 3, 4] (fun _ _ h => h) (go2 hS hK1) rfl
 replace hS := it_f h26 hS
 replace hS := up2 hS hK1
 refine Zx ?_
 refine Zq (Zq (Zr ?_))
 refine Zm ?_
 refine VL.q (q_gtr rfl rfl) (by decide) ?_
 refine Zl ?_
 refine VC.cond_dec rfl (fun h48 => ?_) (fun h48 => ?_)
 ·
  replace hS := it_t h48 hS
  refine Zq (Zr ?_)
  refine Za ?_
  refine Zl ?_
  cases hS
  exact Ze
 replace hS := it_f h48 hS
 refine Zk ?_
 refine Zq (Zr ?_)
 refine Zm ?_
 refine Za ?_
 refine Zl ?_
 refine VC.keep [2] rfl ?_
 cases hS
 exact Ze
theorem rectoref17_word_ct (s_0 : Str) {r : Str × Str} (hS : Sh.rectoref17_word s_0 = some r) :
 Ct Tryz.prog 212 [str s_0] Mo.tt (Ow.emp) (X := Unit) (fun _ => .tuple #[str r.1, str r.2]) (fun _ => True) (fun _ => Mo.tt) (fun _ => Ow.emp) := by
 refine Ct.of Tryz.func212 rfl (by kernel_rfl) Tryz.ntmps212 (by simp) fun c => ?_
 unfold Sh.rectoref17_word at hS
 refine Zq (Zr ?_)
 refine Za ?_
 refine Za ?_
 refine Zl ?_
 refine Zq (Zr ?_)
 refine Za ?_
 refine Zl ?_
 refine VC.cutJ (S := Int) (fun (i4_1 : Int) => i4_1) (fun (i4_1 : Int) => [(0, str s_0), (4, i64 i4_1)]) (fun (i4_1 : Int) => Mo.tt) (fun (i4_1 : Int) => Ow.emp) hS ?_ ?_
 ·
  clear hS
  intro k2 hS
  refine Zb ?_
  refine VC.iter (S := Int) (fun (i4_3 : Int) => i4_3) (fun (i4_3 : Int) => [(0, str s_0), (4, i64 i4_3)]) (fun (i4_3 : Int) => Mo.tt) (fun (i4_3 : Int) => Ow.emp) 0 [0, 4] hS rfl ?_
  clear hS
  rintro i4_3 m1 y1 hS hK1
  show VC _ _ _ _ _ [(0, str s_0), (4, i64 i4_3)] (Mo.and Mo.tt _) (Ow.emp)
  refine Zq (Zq (Zr ?_))
  refine Zm ?_
  refine Zm ?_
  refine VL.q (q_slen Tryz.underlying9 rfl) (by decide) ?_
  refine VL.q (q_lss rfl rfl) (by decide) ?_
  refine Zm ?_
  refine VL.split_dec 10 rfl (fun h10 => ?_) (fun h10 => ?_)
  ·
   replace hS := it_t h10 hS
   refine Zg ?_
   refine Zg ?_
   obtain ⟨z13_4, nz13_4, hz13_4, hS⟩ := at_s hS
   refine VL.gy rfl rfl (q_sidx Tryz.underlying9 rfl rfl nz13_4 hz13_4) (by decide) ?_
   refine VL.gy rfl rfl (q_eql rfl rfl) (by decide) ?_
   refine Zt ?_
   refine Zl ?_
   refine VC.keep [0, 4, 15] rfl ?_
   refine VC.cond_dec rfl (fun h15 => ?_) (fun h15 => ?_)
   ·
    replace hS := it_t h15 hS
    refine Zk ?_
    refine Zb (Zr ?_)
    refine Zm ?_
    obtain ⟨b17, hS⟩ := gd_s hS
    refine VL.q (q_add rfl rfl b17) (by decide) ?_
    refine Za ?_
    refine VL.rnd (i4_3 + 1) [0, 4] (fun _ _ h => h) (go2 hS hK1) rfl
   replace hS := it_f h15 hS
   replace hS := up2 hS hK1
   refine VC.exit_mt i4_3 [0, 4] (fun _ _ h => h) hS rfl
  replace hS := it_f h10 hS
  refine Zn ?_
  refine Zn ?_
  refine Zn ?_
  refine Zn ?_
  refine Zf ?_
  refine Zl ?_
  refine VC.keep [0, 4, 15] rfl ?_
  refine VC.cond_f rfl ?_
  replace hS := up2 hS hK1
  refine VC.exit_mt i4_3 [0, 4] (fun _ _ h => h) hS rfl
 clear hS
 rintro i4_1 hS
 show VC _ _ _ _ _ [(0, str s_0), (4, i64 i4_1)] (Mo.and Mo.tt _) (Ow.emp)
 refine Zq (Zr ?_)
 refine Zm ?_
 refine Za ?_
 refine Zl ?_
 refine VC.cutJ (S := Int) (fun (k5_5 : Int) => k5_5) (fun (k5_5 : Int) => [(0, str s_0), (4, i64 i4_1), (5, i64 k5_5)]) (fun (k5_5 : Int) => Mo.tt) (fun (k5_5 : Int) => Ow.emp) hS ?_ ?_
 ·
  clear hS
  intro k6 hS
  refine Zb ?_
  refine VC.iter (S := Int) (fun (k5_7 : Int) => k5_7) (fun (k5_7 : Int) => [(0, str s_0), (4, i64 i4_1), (5, i64 k5_7)]) (fun (k5_7 : Int) => Mo.tt) (fun (k5_7 : Int) => Ow.emp) i4_1 [0, 4, 5] hS rfl ?_
  clear hS
  rintro k5_7 m1 y1 hS hK1
  show VC _ _ _ _ _ [(0, str s_0), (4, i64 i4_1), (5, i64 k5_7)] (Mo.and Mo.tt _) (Ow.emp)
  refine Zq (Zq (Zr ?_))
  refine Zm ?_
  refine Zm ?_
  refine VL.q (q_slen Tryz.underlying9 rfl) (by decide) ?_
  refine VL.q (q_lss rfl rfl) (by decide) ?_
  refine Zm ?_
  refine VL.split_dec 23 rfl (fun h23 => ?_) (fun h23 => ?_)
  ·
   replace hS := it_t h23 hS
   refine Zg ?_
   refine Zg ?_
   obtain ⟨z26_8, nz26_8, hz26_8, hS⟩ := at_s hS
   refine VL.gy rfl rfl (q_sidx Tryz.underlying9 rfl rfl nz26_8 hz26_8) (by decide) ?_
   refine VL.gy rfl rfl (q_neq rfl rfl) (by decide) ?_
   refine Zt ?_
   refine Zl ?_
   refine VC.keep [0, 4, 5, 28] rfl ?_
   refine VC.cond_ndec rfl (fun h28 => ?_) (fun h28 => ?_)
   ·
    replace hS := it_f h28 hS
    refine Zk ?_
    refine Zb (Zr ?_)
    refine Zm ?_
    obtain ⟨b30, hS⟩ := gd_s hS
    refine VL.q (q_add rfl rfl b30) (by decide) ?_
    refine Za ?_
    refine VL.rnd (k5_7 + 1) [0, 4, 5] (fun _ _ h => h) (go2 hS hK1) rfl
   replace hS := it_t h28 hS
   replace hS := up2 hS hK1
   refine VC.exit_mt k5_7 [0, 4, 5] (fun _ _ h => h) hS rfl
  replace hS := it_f h23 hS
  refine Zn ?_
  refine Zn ?_
  refine Zn ?_
  refine Zn ?_
  refine Zf ?_
  refine Zl ?_
  refine VC.keep [0, 4, 5, 28] rfl ?_
  refine VC.cond_f rfl ?_
  replace hS := up2 hS hK1
  refine VC.exit_mt k5_7 [0, 4, 5] (fun _ _ h => h) hS rfl
 clear hS
 rintro k5_5 hS
 show VC _ _ _ _ _ [(0, str s_0), (4, i64 i4_1), (5, i64 k5_5)] (Mo.and Mo.tt _) (Ow.emp)
 refine Zq ?_
 refine VC.draw ((List.range 9).map fun k => (k, true)) mixed (by kernel_rfl) (by kernel_rfl) (by kernel_rfl) ?_
 refine VD.q rfl (q_move rfl) (by decide) ?_
 refine VD.q rfl (q_move rfl) (by decide) ?_
 refine VD.q rfl (q_move rfl) (by decide) ?_
 obtain ⟨b34, hS⟩ := gd_s hS
 obtain ⟨y34_9, ey34_9, hS⟩ := lt_s hS
 refine VD.q rfl (q_smidE Tryz.underlying9 rfl rfl rfl b34.1 b34.2.1 b34.2.2 ey34_9) (by decide) ?_
 refine VD.q rfl (q_move rfl) (by decide) ?_
 refine VD.q rfl (q_move rfl) (by decide) ?_
 obtain ⟨b37, hS⟩ := gd_s hS
 obtain ⟨y37_10, ey37_10, hS⟩ := lt_s hS
 refine VD.q rfl (q_sfromE Tryz.underlying9 rfl rfl b37.1 b37.2 ey37_10) (by decide) ?_
 refine VD.q rfl (q_assign rfl) (by decide) ?_
 refine VD.q rfl (q_assign rfl) (by decide) ?_
 refine VD.to (fun _ _ h => h) ?_
 refine VC.keep [2, 3] rfl ?_
 cases hS
 exact VC.ret (fin2 (.inr rfl) rfl rfl rfl () rfl trivial (fun _ _ => trivial) (fun _ _ => trivial))
theorem rectoref17_blank_ct (s_0 : Str) {r : Bool} (hS : Sh.rectoref17_blank s_0 = some r) :
 Ct Tryz.prog 277 [str s_0] Mo.tt (Ow.emp) (X := Unit) (fun _ => .bool r) (fun _ => True) (fun _ => Mo.tt) (fun _ => Ow.emp) := by
 refine Ct.of Tryz.func277 rfl (by kernel_rfl) Tryz.ntmps277 (by simp) fun c => ?_
 unfold Sh.rectoref17_blank at hS
 refine Zq (Zr ?_)
 refine Za ?_
 refine Zl ?_
 refine Zq (Zr ?_)
 refine Zm ?_
 obtain ⟨y7_1, ey7_1, hS⟩ := bd_s hS
 refine VL.q (q_call (rectoref17_word_ct s_0 ey7_1) rfl (fun _ _ => rfl)) (by decide) ?_
 refine Zm ?_
 refine VL.q (q_extract rfl rfl) (by decide) ?_
 refine VL.q (q_extract rfl rfl) (by decide) ?_
 refine Za ?_
 refine Za ?_
 refine Zl ?_
 refine Zq (Zr ?_)
 refine Zm ?_
 refine Zs ?_
 refine Za ?_
 refine Zl ?_
 refine VC.keep [2] rfl ?_
 cases hS
 exact Ze
theorem rectoref17_step_ct (s_0 : Str) {r : Rectoref17Step × Int} (hS : Sh.rectoref17_step s_0 = some r) :
 Ct Tryz.prog 213 [str s_0] Mo.tt (Ow.emp) (X := Unit) (fun _ => .tuple #[.agg #[str r.1.verb, i64 r.1.commit, str r.1.text], i64 r.2]) (fun _ => True) (fun _ => Mo.tt) (fun _ => Ow.emp) := by
 refine Ct.of Tryz.func213 rfl (by kernel_rfl) Tryz.ntmps213 (by simp) fun c => ?_
 unfold Sh.rectoref17_step at hS
 refine Zq (Zr ?_)
 refine VL.alloc (cs := [str [], i64 0, str []]) (by kernel_rfl) (by decide) fun b2_1 => ?_
 refine Za ?_
 refine Zl ?_
 refine Zq (Zr ?_)
 refine Zm ?_
 obtain ⟨y11_2, ey11_2, hS⟩ := bd_s hS
 refine VL.q (q_call (rectoref17_word_ct s_0 ey11_2) rfl (fun _ _ => rfl)) (by decide) ?_
 refine Zm ?_
 refine VL.q (q_extract rfl rfl) (by decide) ?_
 refine VL.q (q_extract rfl rfl) (by decide) ?_
 refine Za ?_
 refine Za ?_
 refine Zl ?_
 refine Zq (Zr ?_)
 refine Zm ?_
 obtain ⟨y16_3, ey16_3, hS⟩ := bd_s hS
 refine VL.q (q_call (rectoref17_word_ct y11_2.2 ey16_3) rfl (fun _ _ => rfl)) (by decide) ?_
 refine Zm ?_
 refine VL.q (q_extract rfl rfl) (by decide) ?_
 refine VL.q (q_extract rfl rfl) (by decide) ?_
 refine Za ?_
 refine Za ?_
 refine Zl ?_
 refine VC.keep [2, 4, 6, 7] rfl ?_
 refine Zq (Zq (Zr ?_))
 refine Zm ?_
 refine Zs ?_
 refine Zl ?_
 refine VC.cond_dec rfl (fun h20 => ?_) (fun h20 => ?_)
 ·
  replace hS := it_t h20 hS
  refine Zq (Zr ?_)
  refine VL.q (q_build (vs := []) (cs := #[str [], i64 0, str []]) rfl (by kernel_rfl)) (by decide) ?_
  refine VL.store (vc := [str [], i64 0, str []]) (cs' := [str [], i64 0, str []]) rfl rfl rfl gsz204 rfl rfl (Nat.le_of_ble_eq_true rfl) rfl ?_
  refine Za ?_
  refine Zl ?_
  cases hS
  exact VC.ret (finG (vs := [.agg #[str [], i64 0, str []], i64 2]) (.inr rfl) rfl (RVs.cell gagg204 rfl rfl Rd.blk (RVs.tmp rfl (RVs.nil))) () rfl trivial (by (try dsimp only); exact InM.out) (fun _ _ => trivial))
 replace hS := it_f h20 hS
 refine Zk ?_
 refine Zq (Zq (Zr ?_))
 refine Zm ?_
 obtain ⟨y23_4, ey23_4, hS⟩ := bd_s hS
 refine VL.q (q_call (rectoref17_Verb_ct y11_2.1 ey23_4) rfl (fun _ _ => rfl)) (by decide) ?_
 refine VL.q (q_lss rfl rfl) (by decide) ?_
 refine Zl ?_
 refine VC.cond_dec rfl (fun h24 => ?_) (fun h24 => ?_)
 ·
  replace hS := it_t h24 hS
  refine Zq (Zr ?_)
  refine VL.q (q_build (vs := []) (cs := #[str [], i64 0, str []]) rfl (by kernel_rfl)) (by decide) ?_
  refine VL.store (vc := [str [], i64 0, str []]) (cs' := [str [], i64 0, str []]) rfl rfl rfl gsz204 rfl rfl (Nat.le_of_ble_eq_true rfl) rfl ?_
  refine Za ?_
  refine Zl ?_
  refine VC.keep [2, 3] rfl ?_
  cases hS
  exact VC.ret (finG (vs := [.agg #[str [], i64 0, str []], i64 5]) (.inr rfl) rfl (RVs.cell gagg204 rfl rfl Rd.blk (RVs.tmp rfl (RVs.nil))) () rfl trivial (by (try dsimp only); exact InM.out) (fun _ _ => trivial))
 replace hS := it_f h24 hS
 refine Zk ?_
 refine Zq (Zr ?_)
 refine Zm ?_
 obtain ⟨y27_5, ey27_5, hS⟩ := bd_s hS
 refine VL.q (q_call (rectoref17_Number_ct y16_3.1 ey27_5) rfl (fun _ _ => rfl)) (by decide) ?_
 refine Za ?_
 refine Zl ?_
 refine VC.keep [2, 4, 7, 8] rfl ?_
 refine Zq (Zq (Zr ?_))
 refine Zm ?_
 refine VL.q (q_lss rfl rfl) (by decide) ?_
 refine Zl ?_
 refine VC.cond_dec rfl (fun h29 => ?_) (fun h29 => ?_)
 ·
  replace hS := it_t h29 hS
  refine Zq (Zr ?_)
  refine VL.q (q_build (vs := []) (cs := #[str [], i64 0, str []]) rfl (by kernel_rfl)) (by decide) ?_
  refine VL.store (vc := [str [], i64 0, str []]) (cs' := [str [], i64 0, str []]) rfl rfl rfl gsz204 rfl rfl (Nat.le_of_ble_eq_true rfl) rfl ?_
  refine Za ?_
  refine Zl ?_
  cases hS
  exact VC.ret (finG (vs := [.agg #[str [], i64 0, str []], i64 1]) (.inr rfl) rfl (RVs.cell gagg204 rfl rfl Rd.blk (RVs.tmp rfl (RVs.nil))) () rfl trivial (by (try dsimp only); exact InM.out) (fun _ _ => trivial))
 replace hS := it_f h29 hS
 refine Zk ?_
 refine Zq (Zq (Zr ?_))
 refine Zm ?_
 refine VL.q (q_sne rfl rfl) (by decide) ?_
 refine Zl ?_
 refine VC.cond_ndec rfl (fun h32 => ?_) (fun h32 => ?_)
 ·
  replace hS := it_f h32 hS
  refine Zq (Zq (Zr ?_))
  refine Zm ?_
  obtain ⟨y34_6, ey34_6, hS⟩ := bd_s hS
  refine VL.q (q_call (rectoref17_blank_ct y16_3.2 ey34_6) rfl (fun _ _ => rfl)) (by decide) ?_
  refine VL.q (q_not rfl) (by decide) ?_
  refine Zl ?_
  refine VC.keep [2, 4, 8, 35] rfl ?_
  refine VC.cond rfl (fun h35 => ?_) (fun h35 => ?_)
  ·
   replace hS := it_t h35 hS
   refine Zq (Zr ?_)
   refine VL.q (q_build (vs := []) (cs := #[str [], i64 0, str []]) rfl (by kernel_rfl)) (by decide) ?_
   refine VL.store (vc := [str [], i64 0, str []]) (cs' := [str [], i64 0, str []]) rfl rfl rfl gsz204 rfl rfl (Nat.le_of_ble_eq_true rfl) rfl ?_
   refine Za ?_
   refine Zl ?_
   cases hS
   exact VC.ret (finG (vs := [.agg #[str [], i64 0, str []], i64 2]) (.inr rfl) rfl (RVs.cell gagg204 rfl rfl Rd.blk (RVs.tmp rfl (RVs.nil))) () rfl trivial (by (try dsimp only); exact InM.out) (fun _ _ => trivial))
  replace hS := it_b h35 hS
  refine Zk ?_
  refine Zq (Zr ?_)
  refine Zm ?_
  refine Zm ?_
  refine VL.q (q_build (vs := [(0, str y11_2.1), (1, i64 y27_5)]) (cs := #[str y11_2.1, i64 y27_5, str []]) rfl (by kernel_rfl)) (by decide) ?_
  refine VL.store (vc := [str y11_2.1, i64 y27_5, str []]) (cs' := [str y11_2.1, i64 y27_5, str []]) rfl rfl rfl gsz204 rfl rfl (Nat.le_of_ble_eq_true rfl) rfl ?_
  refine Za ?_
  refine Zl ?_
  cases hS
  exact VC.ret (finG (vs := [.agg #[str y11_2.1, i64 y27_5, str []], i64 0]) (.inr rfl) rfl (RVs.cell gagg204 rfl rfl Rd.blk (RVs.tmp rfl (RVs.nil))) () rfl trivial (by (try dsimp only); exact InM.out) (fun _ _ => trivial))
 replace hS := it_t h32 hS
 refine Zk ?_
 refine Zq (Zq (Zr ?_))
 refine Zm ?_
 refine VL.q (q_slen Tryz.underlying9 rfl) (by decide) ?_
 refine VL.q (q_lss rfl rfl) (by decide) ?_
 refine Zl ?_
 refine VC.cond_dec rfl (fun h42 => ?_) (fun h42 => ?_)
 ·
  replace hS := it_t h42 hS
  refine Zq (Zr ?_)
  refine VL.q (q_build (vs := []) (cs := #[str [], i64 0, str []]) rfl (by kernel_rfl)) (by decide) ?_
  refine VL.store (vc := [str [], i64 0, str []]) (cs' := [str [], i64 0, str []]) rfl rfl rfl gsz204 rfl rfl (Nat.le_of_ble_eq_true rfl) rfl ?_
  refine Za ?_
  refine Zl ?_
  refine VC.keep [2, 3] rfl ?_
  cases hS
  exact VC.ret (finG (vs := [.agg #[str [], i64 0, str []], i64 2]) (.inr rfl) rfl (RVs.cell gagg204 rfl rfl Rd.blk (RVs.tmp rfl (RVs.nil))) () rfl trivial (by (try dsimp only); exact InM.out) (fun _ _ => trivial))
 replace hS := it_f h42 hS
 refine Zk ?_
 refine VC.keep [2, 4, 7, 8] rfl ?_
 refine Zq (Zq (Zr ?_))
 refine Zm ?_
 refine VL.q (q_slen Tryz.underlying9 rfl) (by decide) ?_
 obtain ⟨b46, hS⟩ := gd_s hS
 refine VL.q (q_sub rfl rfl b46) (by decide) ?_
 refine VL.q (q_gtr rfl rfl) (by decide) ?_
 refine Zl ?_
 refine VC.cond_dec rfl (fun h47 => ?_) (fun h47 => ?_)
 ·
  replace hS := it_t h47 hS
  refine Zq (Zr ?_)
  refine VL.q (q_build (vs := []) (cs := #[str [], i64 0, str []]) rfl (by kernel_rfl)) (by decide) ?_
  refine VL.store (vc := [str [], i64 0, str []]) (cs' := [str [], i64 0, str []]) rfl rfl rfl gsz204 rfl rfl (Nat.le_of_ble_eq_true rfl) rfl ?_
  refine Za ?_
  refine Zl ?_
  cases hS
  exact VC.ret (finG (vs := [.agg #[str [], i64 0, str []], i64 4]) (.inr rfl) rfl (RVs.cell gagg204 rfl rfl Rd.blk (RVs.tmp rfl (RVs.nil))) () rfl trivial (by (try dsimp only); exact InM.out) (fun _ _ => trivial))
 replace hS := it_f h47 hS
 refine Zk ?_
 refine Zq (Zr ?_)
 refine Zm ?_
 refine Zm ?_
 refine Zm ?_
 obtain ⟨b52, hS⟩ := gd_s hS
 obtain ⟨y52_7, ey52_7, hS⟩ := lt_s hS
 refine VL.q (q_sfromE Tryz.underlying9 rfl rfl b52.1 b52.2 ey52_7) (by decide) ?_
 refine VL.q (q_build (vs := [(0, str y11_2.1), (1, i64 y27_5), (2, str y52_7)]) (cs := #[str y11_2.1, i64 y27_5, str y52_7]) rfl (by kernel_rfl)) (by decide) ?_
 refine VL.store (vc := [str y11_2.1, i64 y27_5, str y52_7]) (cs' := [str y11_2.1, i64 y27_5, str y52_7]) rfl rfl rfl gsz204 rfl rfl (Nat.le_of_ble_eq_true rfl) rfl ?_
 refine Za ?_
 refine Zl ?_
 refine VC.keep [2, 3] rfl ?_
 cases hS
 exact VC.ret (finG (vs := [.agg #[str y11_2.1, i64 y27_5, str y52_7], i64 0]) (.inr rfl) rfl (RVs.cell gagg204 rfl rfl Rd.blk (RVs.tmp rfl (RVs.nil))) () rfl trivial (by (try dsimp only); exact InM.out) (fun _ _ => trivial))
theorem rectoref17_Parse_ct (s_0 : Str) {r : List Rectoref17Step × Rectoref3WrongP} (hS : Sh.rectoref17_Parse s_0 = some r) :
 Ct Tryz.prog 132 [str s_0] Mo.tt (Ow.emp) (X := Sv Rectoref17Step × Rectoref3Wrong) (fun x => .tuple #[x.1.val, .agg (Dat.enc x.2).toArray]) (fun x => r = (x.1.l, x.2.pl)) (fun x => x.2.m) (fun x => Sv.own x.1 204) := by
 refine Ct.of Tryz.func132 rfl (by kernel_rfl) Tryz.ntmps132 (by simp) fun c => ?_
 unfold Sh.rectoref17_Parse at hS
 refine Zq (Zr ?_)
 refine Za ?_
 refine VL.alloc (cs := [.slice none 0 0, i64 0]) (by kernel_rfl) (by decide) fun b3_1 => ?_
 refine Zl ?_
 refine Zq (Zr ?_)
 refine Zm ?_
 obtain ⟨y12_2, ey12_2, hS⟩ := bd_s hS
 refine VL.callO (rectoref17_Lines_ct s_0 ey12_2) rfl (by decide) ?_
 rintro q12_2_0 rfl
 try dsimp only
 refine Za ?_
 refine Zl ?_
 refine Zq (Zr ?_)
 refine Za ?_
 refine Zl ?_
 refine Zq (Zq (Zr ?_))
 refine Za ?_
 refine Zl ?_
 refine Zb ?_
 refine VC.nilO (⟨none, 0, []⟩ : Sv Rectoref17Step) 204 ⟨rfl, rfl⟩ ?_
 refine VC.iter (S := Sv Rectoref17Step × Int) (fun sg => (sg.1.l, sg.2)) (fun sg => [(3, ptr b3_1 0), (4, q12_2_0.val), (5, sg.1.val), (6, i64 sg.2)]) (fun sg => Mo.tt) (fun sg => Ow.star (Blk b3_1 [.slice none 0 0, i64 0] 77) (Ow.star (Sv.own q12_2_0 9) (Ow.star (Sv.own sg.1 204) (Ow.emp)))) (⟨none, 0, []⟩, 0) [3, 4, 5, 6] hS rfl ?_
 clear hS
 rintro ⟨out5_3, i6_4⟩ m1 y1 hS hK1
 show VC _ _ _ _ _ [(3, ptr b3_1 0), (4, q12_2_0.val), (5, out5_3.val), (6, i64 i6_4)] (Mo.and Mo.tt _) (Ow.star (Blk b3_1 [.slice none 0 0, i64 0] 77) (Ow.star (Sv.own q12_2_0 9) (Ow.star (Sv.own out5_3 204) (Ow.emp))))
 refine Zq (Zq (Zr ?_))
 refine Zm ?_
 refine Zm ?_
 refine VL.q (q_ln (s := q12_2_0) Tryz.underlying32 rfl) (by decide) ?_
 refine VL.q (q_lss rfl rfl) (by decide) ?_
 refine Zl ?_
 refine VC.cond_dec rfl (fun h16 => ?_) (fun h16 => ?_)
 ·
  replace hS := it_t h16 hS
  refine Zk ?_
  refine VC.cutJ (S := Sv Rectoref17Step) (fun (out5_5 : Sv Rectoref17Step) => out5_5.l) (fun (out5_5 : Sv Rectoref17Step) => [(3, ptr b3_1 0), (4, q12_2_0.val), (5, out5_5.val), (6, i64 i6_4)]) (fun (out5_5 : Sv Rectoref17Step) => Mo.tt) (fun (out5_5 : Sv Rectoref17Step) => Ow.star (Blk b3_1 [.slice none 0 0, i64 0] 77) (Ow.star (Sv.own q12_2_0 9) (Ow.star (Sv.own out5_5 204) (Ow.emp)))) hS ?_ ?_
  ·
   clear hS
   intro k6 hS
   refine Zb (Zq (Zr ?_))
   refine Zm ?_
   refine Zm ?_
   obtain ⟨z22_7, nz22_7, hz22_7, hS⟩ := at_s hS
   refine VL.q (q_ixo (s := q12_2_0) Tryz.underlying32 gsz9 rfl rfl nz22_7 (lt_of_get nz22_7 hz22_7)) (by decide) ?_
   refine VL.q (q_elo (s := q12_2_0) 9 gone9 rfl hz22_7 rfl) (by decide) ?_
   obtain ⟨y24_8, ey24_8, hS⟩ := bd_s hS
   refine VL.q (q_call (rectoref17_word_ct z22_7 ey24_8) rfl (fun _ _ => rfl)) (by decide) ?_
   refine Zm ?_
   refine VL.q (q_extract rfl rfl) (by decide) ?_
   refine VL.q (q_extract rfl rfl) (by decide) ?_
   refine Za ?_
   refine Za ?_
   refine Zl ?_
   refine VC.keep [3, 4, 5, 6, 7] rfl ?_
   refine Zq (Zq (Zr ?_))
   refine Zm ?_
   refine Zs ?_
   refine Zm ?_
   refine VL.split_dec 29 rfl (fun h29 => ?_) (fun h29 => ?_)
   ·
    replace hS := it_t h29 hS
    refine Zn ?_
    refine Zn ?_
    refine Zn ?_
    refine Zt ?_
    refine Zl ?_
    refine VC.keep [3, 4, 5, 6, 33] rfl ?_
    refine VC.cond_t rfl ?_
    refine VC.exit_mt out5_3 [3, 4, 5, 6] (fun _ _ h => h) hS rfl
   replace hS := it_f h29 hS
   refine Zg ?_
   obtain ⟨z31_9, nz31_9, hz31_9, hS⟩ := at_s hS
   refine VL.gy rfl rfl (q_sidx Tryz.underlying9 rfl rfl nz31_9 hz31_9) (by decide) ?_
   refine VL.gy rfl rfl (q_eql rfl rfl) (by decide) ?_
   refine Zf ?_
   refine Zl ?_
   refine VC.keep [3, 4, 5, 6, 33] rfl ?_
   refine VC.cond_dec rfl (fun h33 => ?_) (fun h33 => ?_)
   ·
    replace hS := it_t h33 hS
    refine VC.exit_mt out5_3 [3, 4, 5, 6] (fun _ _ h => h) hS rfl
   replace hS := it_f h33 hS
   refine Zk ?_
   refine Zq (Zr ?_)
   refine Zm ?_
   refine Zm ?_
   obtain ⟨z37_10, nz37_10, hz37_10, hS⟩ := at_s hS
   refine VL.q (q_ixo (s := q12_2_0) Tryz.underlying32 gsz9 rfl rfl nz37_10 (lt_of_get nz37_10 hz37_10)) (by decide) ?_
   refine VL.q (q_elo (s := q12_2_0) 9 gone9 rfl hz37_10 rfl) (by decide) ?_
   obtain ⟨y39_11, ey39_11, hS⟩ := bd_s hS
   refine VL.q (q_call (rectoref17_step_ct z37_10 ey39_11) rfl (fun _ _ => rfl)) (by decide) ?_
   refine Zm ?_
   refine VL.q (q_extract rfl rfl) (by decide) ?_
   refine VL.q (q_extract rfl rfl) (by decide) ?_
   refine VL.alloc (cs := [str [], i64 0, str []]) (by kernel_rfl) (by decide) fun b9_12 => ?_
   refine VL.store (vc := [str y39_11.1.verb, i64 y39_11.1.commit, str y39_11.1.text]) (cs' := [str y39_11.1.verb, i64 y39_11.1.commit, str y39_11.1.text]) rfl rfl rfl gsz204 rfl rfl (Nat.le_of_ble_eq_true rfl) rfl ?_
   refine Za ?_
   refine Zl ?_
   refine VC.keep [3, 4, 5, 6, 9, 10] rfl ?_
   refine Zq (Zq (Zr ?_))
   refine Zm ?_
   refine VL.q (q_neq rfl rfl) (by decide) ?_
   refine Zl ?_
   refine VC.cond_ndec rfl (fun h43 => ?_) (fun h43 => ?_)
   ·
    replace hS := it_f h43 hS
    refine Zq (Zr ?_)
    refine Zm ?_
    refine Zm ?_
    obtain ⟨y46_13, ey46_13, hS⟩ := bd_s hS
    refine VL.callF (rectoref3_At_ct [108, 105, 110, 101] i6_4 y39_11.2 ey46_13) rfl (by decide) ?_
    rintro q46_13_0 rfl
    try dsimp only
    refine Za ?_
    refine VL.store (vc := [q46_13_0.parts.val, i64 q46_13_0.err]) (cs' := [q46_13_0.parts.val, i64 q46_13_0.err]) rfl rfl rfl gsz77 rfl rfl (Nat.le_of_ble_eq_true rfl) rfl ?_
    refine Zl ?_
    refine VC.keep [3, 2] rfl ?_
    replace hS := up2 hS hK1
    refine VC.nilO (⟨none, 0, []⟩ : Sv Rectoref17Step) 204 ⟨rfl, rfl⟩ ?_
    cases hS
    exact VC.ret (finG (vs := [.slice none 0 0, .agg #[q46_13_0.parts.val, i64 q46_13_0.err]]) (.inr rfl) rfl (RVs.tmp rfl (RVs.cell gagg77 rfl rfl Rd.blk (RVs.nil))) (⟨none, 0, []⟩, ⟨q46_13_0.parts, q46_13_0.err⟩) rfl rfl (by (try dsimp only); exact InM.out) (by (try dsimp only); exact EntO.out))
   replace hS := it_t h43 hS
   refine Zk ?_
   refine Zq (Zq (Zr ?_))
   refine Zm ?_
   refine VL.q (q_ln (s := out5_3) Tryz.underlying89 rfl) (by decide) ?_
   refine VL.q (q_eql rfl rfl) (by decide) ?_
   refine Zl ?_
   refine VC.cond_dec rfl (fun h49 => ?_) (fun h49 => ?_)
   ·
    replace hS := it_t h49 hS
    refine Zq (Zr ?_)
    obtain ⟨y50_14, ey50_14, hS⟩ := bd_s hS
    refine VL.callF (rectoref3_At_ct [108, 105, 110, 101] 32 4 ey50_14) rfl (by decide) ?_
    rintro q50_14_0 rfl
    try dsimp only
    refine Za ?_
    refine VL.store (vc := [q50_14_0.parts.val, i64 q50_14_0.err]) (cs' := [q50_14_0.parts.val, i64 q50_14_0.err]) rfl rfl rfl gsz77 rfl rfl (Nat.le_of_ble_eq_true rfl) rfl ?_
    refine Zl ?_
    refine VC.keep [3, 2] rfl ?_
    replace hS := up2 hS hK1
    refine VC.nilO (⟨none, 0, []⟩ : Sv Rectoref17Step) 204 ⟨rfl, rfl⟩ ?_
    cases hS
    exact VC.ret (finG (vs := [.slice none 0 0, .agg #[q50_14_0.parts.val, i64 q50_14_0.err]]) (.inr rfl) rfl (RVs.tmp rfl (RVs.cell gagg77 rfl rfl Rd.blk (RVs.nil))) (⟨none, 0, []⟩, ⟨q50_14_0.parts, q50_14_0.err⟩) rfl rfl (by (try dsimp only); exact InM.out) (by (try dsimp only); exact EntO.out))
   replace hS := it_f h49 hS
   refine Zk ?_
   refine Zr ?_
   refine Zm ?_
   refine VL.q (q_fes gagg204 rfl rfl) (by decide) ?_
   refine VL.lit (α := Rectoref17Step) (xs := [.tmp 52]) (vs := [.agg #[str y39_11.1.verb, i64 y39_11.1.commit, str y39_11.1.text]]) [⟨y39_11.1.verb, y39_11.1.commit, y39_11.1.text⟩] Tryz.underlying89 glit204 (by decide) rfl rfl rfl rfl (by decide) (fun _ _ _ _ => trivial) (by decide) (fun s53_15 hs53_15 => ?_) (by decide)
   replace hS := lt_to hs53_15 hS
   obtain ⟨b54, hS⟩ := gd_s hS
   refine VL.app (s := out5_3) (r := s53_15) Tryz.underlying89 gapp204 (by decide) rfl Fo.out (ap1 b54) (ap2 b54 (by decide)) (by decide) (fun s54_17 hs54_17 => ?_)
   replace hS := lt_to hs54_17 hS
   refine Za ?_
   refine VL.mt s54_17 [3, 4, 5, 6] (fun _ _ h => h) hS rfl
  clear hS
  rintro out5_5 hS
  show VC _ _ _ _ _ [(3, ptr b3_1 0), (4, q12_2_0.val), (5, out5_5.val), (6, i64 i6_4)] (Mo.and Mo.tt _) (Ow.star (Blk b3_1 [.slice none 0 0, i64 0] 77) (Ow.star (Sv.own q12_2_0 9) (Ow.star (Sv.own out5_5 204) (Ow.emp))))
  refine Zr ?_
  refine Zm ?_
  obtain ⟨b18, hS⟩ := gd_s hS
  refine VL.q (q_add rfl rfl b18) (by decide) ?_
  refine Za ?_
  refine VL.rnd (out5_5, (i6_4 + 1)) [3, 4, 5, 6] (fun _ _ h => h) (go2 hS hK1) rfl
 replace hS := it_f h16 hS
 replace hS := up2 hS hK1
 refine Zx ?_
 refine Zq (Zr ?_)
 refine Zm ?_
 refine VL.q (q_build (vs := []) (cs := #[.slice none 0 0, i64 0]) rfl (by kernel_rfl)) (by decide) ?_
 refine Za ?_
 refine VL.store (vc := [.slice none 0 0, i64 0]) (cs' := [.slice none 0 0, i64 0]) rfl rfl rfl gsz77 rfl rfl (Nat.le_of_ble_eq_true rfl) rfl ?_
 refine Zl ?_
 refine VC.keep [3, 2] rfl ?_
 cases hS
 exact VC.ret (finG (vs := [out5_3.val, .agg #[.slice none 0 0, i64 0]]) (.inr rfl) rfl (RVs.tmp rfl (RVs.cell gagg77 rfl rfl Rd.blk (RVs.nil))) (out5_3, ⟨⟨none, 0, []⟩, 0⟩) rfl rfl (by (try dsimp only); exact InM.out) (by (try dsimp only); exact EntO.out))
theorem rectoref3_In_ct (word_0 : Str) (at_1 : Int) (w_2 : Rectoref3Wrong) {r : Rectoref3WrongP} (hS : Sh.rectoref3_In word_0 at_1 w_2.pl = some r) :
 Ct Tryz.prog 133 [str word_0, i64 at_1, .agg #[w_2.parts.val, i64 w_2.err]] w_2.parts.ok (Ow.emp) (X := Rectoref3Wrong) (fun x => .agg (Dat.enc x).toArray) (fun x => r = x.pl) (fun x => x.m) (fun x => Ow.emp) := by
 refine Ct.of Tryz.func133 rfl (by kernel_rfl) Tryz.ntmps133 (by simp) fun c => ?_
 unfold Sh.rectoref3_In at hS
 refine Zq (Zr ?_)
 refine VL.box (cs := [w_2.parts.val, i64 w_2.err]) rfl rfl (by decide) fun b5_1 => ?_
 refine VL.alloc (cs := [.slice none 0 0, i64 0]) (by kernel_rfl) (by decide) fun b6_2 => ?_
 refine Zl ?_
 refine Zq ?_
 refine VC.draw [(0, true), (1, true), (2, true), (4, true), (5, true), (7, true), (8, true), (3, false), (6, false), (9, true), (10, false)] mixed (by kernel_rfl) (by kernel_rfl) (by kernel_rfl) ?_
 refine VD.q rfl (q_move rfl) (by decide) ?_
 refine VD.q rfl (q_move rfl) (by decide) ?_
 refine VD.q rfl (q_build (vs := [(0, str word_0), (1, i64 at_1)]) (cs := #[str word_0, i64 at_1]) rfl (by kernel_rfl)) (by decide) ?_
 refine VD.q rfl (q_field gfa77_0 rfl) (by decide) ?_
 refine VD.q rfl (q_fe gone75 rfl rfl) (by decide) ?_
 refine VD.q rfl (q_field gfa77_1 rfl) (by decide) ?_
 refine VD.q rfl (q_fe gone3 rfl rfl) (by decide) ?_
 refine VD.one rfl ?_
 refine VL.litO (α := Rectoref3Part) (xs := [.tmp 9]) (vs := [.agg #[str word_0, i64 at_1]]) [⟨word_0, at_1⟩] Tryz.underlying75 glit183 (by decide) rfl rfl rfl rfl (by decide) (by decide) (fun s10_3 hs10_3 => ?_) (by decide)
 replace hS := lt_to hs10_3 hS
 refine VL.back (D' := [(8, i64 w_2.err), (7, ptr b5_1 1), (5, w_2.parts.val), (4, ptr b5_1 0)]) (by kernel_rfl) (Pend.cons rfl (q_fe gone3 rfl rfl) (Pend.cons rfl (q_field gfa77_1 rfl) (Pend.cons rfl (q_fe gone75 rfl rfl) (Pend.cons rfl (q_field gfa77_0 rfl) (Pend.nil))))) ?_
 refine VD.one rfl ?_
 obtain ⟨b13, hS⟩ := gd_s hS
 refine VL.app (s := s10_3) (r := w_2.parts) Tryz.underlying75 gapp183 (by decide) rfl Fo.out (ap1 b13) (ap2 b13 (by decide)) (by decide) (fun s13_5 hs13_5 => ?_)
 replace hS := lt_to hs13_5 hS
 refine VL.back (D' := [(8, i64 w_2.err), (7, ptr b5_1 1)]) (by kernel_rfl) (Pend.cons rfl (q_fe gone3 rfl rfl) (Pend.cons rfl (q_field gfa77_1 rfl) (Pend.nil))) ?_
 refine VD.q rfl (q_build (vs := [(0, s13_5.val), (1, i64 w_2.err)]) (cs := #[s13_5.val, i64 w_2.err]) rfl (by kernel_rfl)) (by decide) ?_
 refine VD.one rfl ?_
 refine VL.store (vc := [s13_5.val, i64 w_2.err]) (cs' := [s13_5.val, i64 w_2.err]) rfl rfl rfl gsz77 rfl rfl (Nat.le_of_ble_eq_true rfl) rfl ?_
 refine VL.back (D' := []) (by kernel_rfl) (Pend.nil) ?_
 refine VD.to (fun _ _ h => h) ?_
 refine VC.keep [6] rfl ?_
 refine VC.shut s13_5 183 (fun _ _ _ _ => trivial) ?_
 cases hS
 exact VC.ret (finG (vs := [.agg #[s13_5.val, i64 w_2.err]]) (.inr rfl) rfl (RVs.cell gagg77 rfl rfl Rd.blk (RVs.nil)) ⟨s13_5, w_2.err⟩ rfl rfl (by (try dsimp only); exact InM.out) (fun _ _ => trivial))
end Go.Proofs.YtpmhinamcndmeaaGreatDoor
end

section
set_option linter.unusedVariables false
namespace Go.Proofs.YtpmhinamcndmeaaGreatDoor
set_option maxHeartbeats 4000000
set_option maxRecDepth 100000
open Go.RowKit Go.V
open Go.S hiding Str
theorem rectoref17_Hear_ct (s_0 : Str) {r : Rectoref17CmdP × Rectoref3WrongP} (hS : Sh.rectoref17_Hear s_0 = some r) :
 Ct Tryz.prog 50 [str s_0] Mo.tt (Ow.emp) (X := Rectoref17Cmd × Rectoref3Wrong) (fun x => .tuple #[.agg (Dat.enc x.1).toArray, .agg (Dat.enc x.2).toArray]) (fun x => r = (x.1.pl, x.2.pl)) (fun x => (x.1.m.and x.2.m)) (fun x => Ow.emp) := by
 refine Ct.of Tryz.func50 rfl (by kernel_rfl) Tryz.ntmps50 (by simp) fun c => ?_
 unfold Sh.rectoref17_Hear at hS
 refine Zq (Zr ?_)
 refine VL.alloc (cs := [str [], str [], i64 0, str [], .bool false, .slice none 0 0]) (by kernel_rfl) (by decide) fun b2_1 => ?_
 refine VL.alloc (cs := [.slice none 0 0, i64 0]) (by kernel_rfl) (by decide) fun b3_2 => ?_
 refine Zl ?_
 refine Zq (Zr ?_)
 refine Zm ?_
 obtain ⟨y19_3, ey19_3, hS⟩ := bd_s hS
 refine VL.q (q_call (rectoref17_cut_ct s_0 10 ey19_3) rfl (fun _ _ => rfl)) (by decide) ?_
 refine Zm ?_
 refine VL.q (q_extract rfl rfl) (by decide) ?_
 refine VL.q (q_extract rfl rfl) (by decide) ?_
 refine VL.q (q_extract rfl rfl) (by decide) ?_
 refine Za ?_
 refine Za ?_
 refine Za ?_
 refine Zl ?_
 refine VC.keep [2, 3, 4, 5, 6] rfl ?_
 refine Zq (Zr ?_)
 refine Zm ?_
 obtain ⟨y25_4, ey25_4, hS⟩ := bd_s hS
 refine VL.q (q_call (rectoref17_cut_ct y19_3.1 32 ey25_4) rfl (fun _ _ => rfl)) (by decide) ?_
 refine Zm ?_
 refine VL.q (q_extract rfl rfl) (by decide) ?_
 refine VL.q (q_extract rfl rfl) (by decide) ?_
 refine VL.q (q_extract rfl rfl) (by decide) ?_
 refine Za ?_
 refine Za ?_
 refine Za ?_
 refine Zl ?_
 refine VC.keep [2, 3, 5, 6, 7, 8, 9] rfl ?_
 refine Zq (Zr ?_)
 refine Zm ?_
 obtain ⟨y30_5, ey30_5, hS⟩ := bd_s hS
 refine VL.q (q_call (rectoref17_Place_ct y25_4.1 ey30_5) rfl (fun _ _ => rfl)) (by decide) ?_
 refine Za ?_
 refine Zl ?_
 refine Zq (Zq (Zr ?_))
 refine Zm ?_
 refine VL.q (q_lss rfl rfl) (by decide) ?_
 refine Zl ?_
 refine VC.cond_dec rfl (fun h32 => ?_) (fun h32 => ?_)
 ·
  replace hS := it_t h32 hS
  refine Zq (Zr ?_)
  refine VL.q (q_build (vs := []) (cs := #[str [], str [], i64 0, str [], .bool false, .slice none 0 0]) rfl (by kernel_rfl)) (by decide) ?_
  refine Zm ?_
  obtain ⟨y35_6, ey35_6, hS⟩ := bd_s hS
  refine VL.callF (rectoref3_At_ct [99, 109, 100] y30_5 5 ey35_6) rfl (by decide) ?_
  rintro q35_6_0 rfl
  try dsimp only
  refine VL.store (vc := [str [], str [], i64 0, str [], .bool false, .slice none 0 0]) (cs' := [str [], str [], i64 0, str [], .bool false, .slice none 0 0]) rfl rfl rfl gsz91 rfl rfl (Nat.le_of_ble_eq_true rfl) rfl ?_
  refine VL.store (vc := [q35_6_0.parts.val, i64 q35_6_0.err]) (cs' := [q35_6_0.parts.val, i64 q35_6_0.err]) rfl rfl rfl gsz77 rfl rfl (Nat.le_of_ble_eq_true rfl) rfl ?_
  refine Zl ?_
  refine VC.keep [2, 3] rfl ?_
  cases hS
  exact VC.ret (finG (vs := [.agg #[str [], str [], i64 0, str [], .bool false, .slice none 0 0], .agg #[q35_6_0.parts.val, i64 q35_6_0.err]]) (.inr rfl) rfl (RVs.cell gagg91 rfl rfl Rd.blk (RVs.cell gagg77 rfl rfl Rd.blk (RVs.nil))) (⟨[], [], 0, [], false, ⟨none, 0, []⟩⟩, ⟨q35_6_0.parts, q35_6_0.err⟩) rfl rfl (by (try dsimp only); exact InM.out) (fun _ _ => trivial))
 replace hS := it_f h32 hS
 refine Zk ?_
 refine Zq (Zr ?_)
 refine Zm ?_
 refine VL.q (q_build (vs := [(0, str y25_4.1)]) (cs := #[str y25_4.1, str [], i64 0, str [], .bool false, .slice none 0 0]) rfl (by kernel_rfl)) (by decide) ?_
 refine VL.alloc (cs := [str [], str [], i64 0, str [], .bool false, .slice none 0 0]) (by kernel_rfl) (by decide) fun b11_7 => ?_
 refine VL.store (vc := [str y25_4.1, str [], i64 0, str [], .bool false, .slice none 0 0]) (cs' := [str y25_4.1, str [], i64 0, str [], .bool false, .slice none 0 0]) rfl rfl rfl gsz91 rfl rfl (Nat.le_of_ble_eq_true rfl) rfl ?_
 refine Zl ?_
 refine Zq (Zr ?_)
 refine Zm ?_
 obtain ⟨y39_8, ey39_8, hS⟩ := bd_s hS
 refine VL.callF (rectoref3_At_ct [99, 109, 100] y30_5 2 ey39_8) rfl (by decide) ?_
 rintro q39_8_0 rfl
 try dsimp only
 refine VL.alloc (cs := [.slice none 0 0, i64 0]) (by kernel_rfl) (by decide) fun b12_9 => ?_
 refine VL.store (vc := [q39_8_0.parts.val, i64 q39_8_0.err]) (cs' := [q39_8_0.parts.val, i64 q39_8_0.err]) rfl rfl rfl gsz77 rfl rfl (Nat.le_of_ble_eq_true rfl) rfl ?_
 refine Zl ?_
 refine VC.keep [2, 3, 5, 6, 7, 8, 9, 10, 11, 12] rfl ?_
 refine Zq ?_
 refine VC.cutJ (S := Bool) (fun (x44_10 : Bool) => x44_10) (fun (x44_10 : Bool) => [(2, ptr b2_1 0), (3, ptr b3_2 0), (5, str y19_3.2.1), (7, str y25_4.1), (8, str y25_4.2.1), (9, .bool y25_4.2.2), (10, i64 y30_5), (11, ptr b11_7 0), (12, ptr b12_9 0), (44, .bool x44_10)]) (fun (x44_10 : Bool) => Mo.tt) (fun (x44_10 : Bool) => Ow.star (Blk b12_9 [q39_8_0.parts.val, i64 q39_8_0.err] 77) (Ow.star (Blk b11_7 [str y25_4.1, str [], i64 0, str [], .bool false, .slice none 0 0] 91) (Ow.star (Blk b3_2 [.slice none 0 0, i64 0] 77) (Ow.star (Blk b2_1 [str [], str [], i64 0, str [], .bool false, .slice none 0 0] 91) (Ow.emp))))) hS ?_ ?_
 ·
  clear hS
  intro k11 hS
  refine Zr ?_
  refine Zm ?_
  refine VL.q (q_sne rfl rfl) (by decide) ?_
  refine Zm ?_
  refine VL.split_ndec 42 rfl (fun h42 => ?_) (fun h42 => ?_)
  ·
   replace hS := it_f h42 hS
   refine Zg ?_
   refine Zt ?_
   refine VL.mt y19_3.2.2 [2, 3, 5, 7, 8, 9, 10, 11, 12, 44] (fun _ _ h => h) hS rfl
  replace hS := it_t h42 hS
  refine Zn ?_
  refine Zf ?_
  refine VL.mt false [2, 3, 5, 7, 8, 9, 10, 11, 12, 44] (fun _ _ h => h) hS rfl
 clear hS
 rintro x44_10 hS
 show VC _ _ _ _ _ [(2, ptr b2_1 0), (3, ptr b3_2 0), (5, str y19_3.2.1), (7, str y25_4.1), (8, str y25_4.2.1), (9, .bool y25_4.2.2), (10, i64 y30_5), (11, ptr b11_7 0), (12, ptr b12_9 0), (44, .bool x44_10)] (Mo.and Mo.tt _) (Ow.star (Blk b12_9 [q39_8_0.parts.val, i64 q39_8_0.err] 77) (Ow.star (Blk b11_7 [str y25_4.1, str [], i64 0, str [], .bool false, .slice none 0 0] 91) (Ow.star (Blk b3_2 [.slice none 0 0, i64 0] 77) (Ow.star (Blk b2_1 [str [], str [], i64 0, str [], .bool false, .slice none 0 0] 91) (Ow.emp)))))
 refine VC.cond rfl (fun h44 => ?_) (fun h44 => ?_)
 ·
  replace hS := it_t h44 hS
  refine Zq ?_
  refine VC.draw [(0, true), (1, true), (2, false), (3, false)] mixed (by kernel_rfl) (by kernel_rfl) (by kernel_rfl) ?_
  refine VD.q rfl (q_build (vs := []) (cs := #[str [], str [], i64 0, str [], .bool false, .slice none 0 0]) rfl (by kernel_rfl)) (by decide) ?_
  refine VD.q rfl (q_fes gagg77 rfl rfl) (by decide) ?_
  refine VD.one rfl ?_
  refine VL.store (vc := [str [], str [], i64 0, str [], .bool false, .slice none 0 0]) (cs' := [str [], str [], i64 0, str [], .bool false, .slice none 0 0]) rfl rfl rfl gsz91 rfl rfl (Nat.le_of_ble_eq_true rfl) rfl ?_
  refine VL.back (D' := [(1, .agg #[q39_8_0.parts.val, i64 q39_8_0.err])]) (by kernel_rfl) (Pend.cons rfl (q_fes gagg77 rfl rfl) (Pend.nil)) ?_
  refine VD.one rfl ?_
  refine VL.store (vc := [q39_8_0.parts.val, i64 q39_8_0.err]) (cs' := [q39_8_0.parts.val, i64 q39_8_0.err]) rfl rfl rfl gsz77 rfl rfl (Nat.le_of_ble_eq_true rfl) rfl ?_
  refine VL.back (D' := []) (by kernel_rfl) (Pend.nil) ?_
  refine VD.to (fun _ _ h => h) ?_
  refine VC.keep [2, 3] rfl ?_
  cases hS
  exact VC.ret (finG (vs := [.agg #[str [], str [], i64 0, str [], .bool false, .slice none 0 0], .agg #[q39_8_0.parts.val, i64 q39_8_0.err]]) (.inr rfl) rfl (RVs.cell gagg91 rfl rfl Rd.blk (RVs.cell gagg77 rfl rfl Rd.blk (RVs.nil))) (⟨[], [], 0, [], false, ⟨none, 0, []⟩⟩, ⟨q39_8_0.parts, q39_8_0.err⟩) rfl rfl (by (try dsimp only); exact InM.out) (fun _ _ => trivial))
 replace hS := it_b h44 hS
 refine Zk ?_
 refine Zq (Zr ?_)
 refine Za ?_
 refine Zl ?_
 refine VC.cutJ (S := Sv Str) (fun (w13_12 : Sv Str) => w13_12.l) (fun (w13_12 : Sv Str) => [(2, ptr b2_1 0), (3, ptr b3_2 0), (5, str y19_3.2.1), (7, str y25_4.1), (8, str y25_4.2.1), (9, .bool y25_4.2.2), (10, i64 y30_5), (11, ptr b11_7 0), (12, ptr b12_9 0), (13, w13_12.val)]) (fun (w13_12 : Sv Str) => Mo.tt) (fun (w13_12 : Sv Str) => Ow.star (Blk b12_9 [q39_8_0.parts.val, i64 q39_8_0.err] 77) (Ow.star (Blk b11_7 [str y25_4.1, str [], i64 0, str [], .bool false, .slice none 0 0] 91) (Ow.star (Blk b3_2 [.slice none 0 0, i64 0] 77) (Ow.star (Blk b2_1 [str [], str [], i64 0, str [], .bool false, .slice none 0 0] 91) (Ow.star (Sv.own w13_12 9) (Ow.emp)))))) hS ?_ ?_
 ·
  clear hS
  intro k13 hS
  refine Zq (Zr ?_)
  refine Zm ?_
  refine Zl ?_
  refine VC.cond rfl (fun h47 => ?_) (fun h47 => ?_)
  ·
   replace hS := it_t h47 hS
   refine Zr ?_
   refine Zm ?_
   obtain ⟨y49_14, ey49_14, hS⟩ := bd_s hS
   refine VL.callO (rectoref17_fields_ct y25_4.2.1 ey49_14) rfl (by decide) ?_
   rintro q49_14_0 rfl
   try dsimp only
   refine Za ?_
   refine VL.mt q49_14_0 [2, 3, 5, 7, 8, 9, 10, 11, 12, 13] (fun _ _ h => h) hS rfl
  replace hS := it_b h47 hS
  refine VC.nilO (⟨none, 0, []⟩ : Sv Str) 9 ⟨rfl, rfl⟩ ?_
  refine VC.skip_mt ⟨none, 0, []⟩ [2, 3, 5, 7, 8, 9, 10, 11, 12, 13] (fun _ _ h => h) hS rfl
 clear hS
 rintro w13_12 hS
 show VC _ _ _ _ _ [(2, ptr b2_1 0), (3, ptr b3_2 0), (5, str y19_3.2.1), (7, str y25_4.1), (8, str y25_4.2.1), (9, .bool y25_4.2.2), (10, i64 y30_5), (11, ptr b11_7 0), (12, ptr b12_9 0), (13, w13_12.val)] (Mo.and Mo.tt _) (Ow.star (Blk b12_9 [q39_8_0.parts.val, i64 q39_8_0.err] 77) (Ow.star (Blk b11_7 [str y25_4.1, str [], i64 0, str [], .bool false, .slice none 0 0] 91) (Ow.star (Blk b3_2 [.slice none 0 0, i64 0] 77) (Ow.star (Blk b2_1 [str [], str [], i64 0, str [], .bool false, .slice none 0 0] 91) (Ow.star (Sv.own w13_12 9) (Ow.emp))))))
 refine VC.cutJ (S := Sv Str × Str × Bool) (fun sg => (sg.1.l, sg.2.1, sg.2.2)) (fun sg => [(2, ptr b2_1 0), (3, ptr b3_2 0), (5, str y19_3.2.1), (7, str y25_4.1), (10, i64 y30_5), (11, ptr b11_7 0), (12, ptr b12_9 0), (13, sg.1.val)]) (fun sg => Mo.tt) (fun sg => Ow.star (Blk b12_9 [q39_8_0.parts.val, i64 q39_8_0.err] 77) (Ow.star (Blk b11_7 [str y25_4.1, str [], i64 0, str sg.2.1, .bool sg.2.2, .slice none 0 0] 91) (Ow.star (Blk b3_2 [.slice none 0 0, i64 0] 77) (Ow.star (Blk b2_1 [str [], str [], i64 0, str [], .bool false, .slice none 0 0] 91) (Ow.star (Sv.own sg.1 9) (Ow.emp)))))) hS ?_ ?_
 ·
  clear hS
  intro k18 hS
  refine Zq (Zr ?_)
  refine Zm ?_
  refine Zl ?_
  refine Zb ?_
  refine VC.cutJ (S := Bool) (fun (x51_19 : Bool) => x51_19) (fun (x51_19 : Bool) => [(2, ptr b2_1 0), (3, ptr b3_2 0), (5, str y19_3.2.1), (7, str y25_4.1), (8, str y25_4.2.1), (9, .bool y25_4.2.2), (10, i64 y30_5), (11, ptr b11_7 0), (12, ptr b12_9 0), (13, w13_12.val), (50, str y25_4.1), (51, .bool x51_19)]) (fun (x51_19 : Bool) => Mo.tt) (fun (x51_19 : Bool) => Ow.star (Blk b12_9 [q39_8_0.parts.val, i64 q39_8_0.err] 77) (Ow.star (Blk b11_7 [str y25_4.1, str [], i64 0, str [], .bool false, .slice none 0 0] 91) (Ow.star (Blk b3_2 [.slice none 0 0, i64 0] 77) (Ow.star (Blk b2_1 [str [], str [], i64 0, str [], .bool false, .slice none 0 0] 91) (Ow.star (Sv.own w13_12 9) (Ow.emp)))))) hS ?_ ?_
  ·
   clear hS
   intro k20 hS
   refine Zq (Zr ?_)
   refine Zs ?_
   refine Za ?_
   refine Zl ?_
   refine VC.cond_dec rfl (fun h51 => ?_) (fun h51 => ?_)
   ·
    replace hS := it_t h51 hS
    refine VC.skip_mt (decide (y25_4.1 = [99, 111, 109, 109, 105, 116])) [2, 3, 5, 7, 8, 9, 10, 11, 12, 13, 50, 51] (fun _ _ h => h) hS rfl
   replace hS := it_f h51 hS
   refine Zr ?_
   refine Zs ?_
   refine Za ?_
   refine VL.mt (decide (y25_4.1 = [115, 116, 97, 115, 104])) [2, 3, 5, 7, 8, 9, 10, 11, 12, 13, 50, 51] (fun _ _ h => h) hS rfl
  clear hS
  rintro x51_19 hS
  show VC _ _ _ _ _ [(2, ptr b2_1 0), (3, ptr b3_2 0), (5, str y19_3.2.1), (7, str y25_4.1), (8, str y25_4.2.1), (9, .bool y25_4.2.2), (10, i64 y30_5), (11, ptr b11_7 0), (12, ptr b12_9 0), (13, w13_12.val), (50, str y25_4.1), (51, .bool x51_19)] (Mo.and Mo.tt _) (Ow.star (Blk b12_9 [q39_8_0.parts.val, i64 q39_8_0.err] 77) (Ow.star (Blk b11_7 [str y25_4.1, str [], i64 0, str [], .bool false, .slice none 0 0] 91) (Ow.star (Blk b3_2 [.slice none 0 0, i64 0] 77) (Ow.star (Blk b2_1 [str [], str [], i64 0, str [], .bool false, .slice none 0 0] 91) (Ow.star (Sv.own w13_12 9) (Ow.emp))))))
  refine VC.cond rfl (fun h51 => ?_) (fun h51 => ?_)
  ·
   replace hS := it_t h51 hS
   refine Zq (Zr ?_)
   refine Zm ?_
   refine VL.q (q_field gfa91_3 rfl) (by decide) ?_
   refine VL.store (vc := [str y25_4.2.1]) (cs' := [str y25_4.1, str [], i64 0, str y25_4.2.1, .bool false, .slice none 0 0]) rfl rfl rfl gsz9 rfl rfl (Nat.le_of_ble_eq_true rfl) rfl ?_
   refine Zl ?_
   refine Zq ?_
   refine VC.cutJ (S := Bool) (fun (x60_21 : Bool) => x60_21) (fun (x60_21 : Bool) => [(2, ptr b2_1 0), (3, ptr b3_2 0), (5, str y19_3.2.1), (7, str y25_4.1), (10, i64 y30_5), (11, ptr b11_7 0), (12, ptr b12_9 0), (60, .bool x60_21)]) (fun (x60_21 : Bool) => Mo.tt) (fun (x60_21 : Bool) => Ow.star (Blk b11_7 [str y25_4.1, str [], i64 0, str y25_4.2.1, .bool false, .slice none 0 0] 91) (Ow.star (Blk b12_9 [q39_8_0.parts.val, i64 q39_8_0.err] 77) (Ow.star (Blk b3_2 [.slice none 0 0, i64 0] 77) (Ow.star (Blk b2_1 [str [], str [], i64 0, str [], .bool false, .slice none 0 0] 91) (Ow.emp))))) hS ?_ ?_
   ·
    clear hS
    intro k22 hS
    refine Zr ?_
    refine Zm ?_
    refine Zm ?_
    refine VL.split 57 rfl (fun h57 => ?_) (fun h57 => ?_)
    ·
     replace hS := it_t h57 hS
     refine Zg ?_
     refine VL.gy rfl rfl (q_seq rfl rfl) (by decide) ?_
     refine Zt ?_
     refine VL.mt (decide (y25_4.2.1 = [])) [2, 3, 5, 7, 10, 11, 12, 60] (fun _ _ h => h) hS rfl
    replace hS := it_b h57 hS
    refine Zn ?_
    refine Zn ?_
    refine Zf ?_
    refine VL.mt false [2, 3, 5, 7, 10, 11, 12, 60] (fun _ _ h => h) hS rfl
   clear hS
   rintro x60_21 hS
   show VC _ _ _ _ _ [(2, ptr b2_1 0), (3, ptr b3_2 0), (5, str y19_3.2.1), (7, str y25_4.1), (10, i64 y30_5), (11, ptr b11_7 0), (12, ptr b12_9 0), (60, .bool x60_21)] (Mo.and Mo.tt _) (Ow.star (Blk b11_7 [str y25_4.1, str [], i64 0, str y25_4.2.1, .bool false, .slice none 0 0] 91) (Ow.star (Blk b12_9 [q39_8_0.parts.val, i64 q39_8_0.err] 77) (Ow.star (Blk b3_2 [.slice none 0 0, i64 0] 77) (Ow.star (Blk b2_1 [str [], str [], i64 0, str [], .bool false, .slice none 0 0] 91) (Ow.emp)))))
   refine VC.cond rfl (fun h60 => ?_) (fun h60 => ?_)
   ·
    replace hS := it_t h60 hS
    refine Zq ?_
    refine VC.draw [(0, true), (1, true), (2, false), (3, false)] mixed (by kernel_rfl) (by kernel_rfl) (by kernel_rfl) ?_
    refine VD.q rfl (q_build (vs := []) (cs := #[str [], str [], i64 0, str [], .bool false, .slice none 0 0]) rfl (by kernel_rfl)) (by decide) ?_
    refine VD.q rfl (q_fes gagg77 rfl rfl) (by decide) ?_
    refine VD.one rfl ?_
    refine VL.store (vc := [str [], str [], i64 0, str [], .bool false, .slice none 0 0]) (cs' := [str [], str [], i64 0, str [], .bool false, .slice none 0 0]) rfl rfl rfl gsz91 rfl rfl (Nat.le_of_ble_eq_true rfl) rfl ?_
    refine VL.back (D' := [(1, .agg #[q39_8_0.parts.val, i64 q39_8_0.err])]) (by kernel_rfl) (Pend.cons rfl (q_fes gagg77 rfl rfl) (Pend.nil)) ?_
    refine VD.one rfl ?_
    refine VL.store (vc := [q39_8_0.parts.val, i64 q39_8_0.err]) (cs' := [q39_8_0.parts.val, i64 q39_8_0.err]) rfl rfl rfl gsz77 rfl rfl (Nat.le_of_ble_eq_true rfl) rfl ?_
    refine VL.back (D' := []) (by kernel_rfl) (Pend.nil) ?_
    refine VD.to (fun _ _ h => h) ?_
    cases hS
    exact VC.ret (finG (vs := [.agg #[str [], str [], i64 0, str [], .bool false, .slice none 0 0], .agg #[q39_8_0.parts.val, i64 q39_8_0.err]]) (.inr rfl) rfl (RVs.cell gagg91 rfl rfl Rd.blk (RVs.cell gagg77 rfl rfl Rd.blk (RVs.nil))) (⟨[], [], 0, [], false, ⟨none, 0, []⟩⟩, ⟨q39_8_0.parts, q39_8_0.err⟩) rfl rfl (by (try dsimp only); exact InM.out) (fun _ _ => trivial))
   replace hS := it_b h60 hS
   refine Zk ?_
   refine Zr ?_
   refine Za ?_
   refine VL.nilO (⟨none, 0, []⟩ : Sv Str) 9 ⟨rfl, rfl⟩ ?_
   refine VL.mt (⟨none, 0, []⟩, y25_4.2.1, false) [2, 3, 5, 7, 10, 11, 12, 13] (fun _ _ h => h) hS rfl
  replace hS := it_b h51 hS
  refine VC.cutJ (S := Bool) (fun (x63_23 : Bool) => x63_23) (fun (x63_23 : Bool) => [(2, ptr b2_1 0), (3, ptr b3_2 0), (5, str y19_3.2.1), (7, str y25_4.1), (10, i64 y30_5), (11, ptr b11_7 0), (12, ptr b12_9 0), (13, w13_12.val), (63, .bool x63_23)]) (fun (x63_23 : Bool) => Mo.tt) (fun (x63_23 : Bool) => Ow.star (Blk b12_9 [q39_8_0.parts.val, i64 q39_8_0.err] 77) (Ow.star (Blk b11_7 [str y25_4.1, str [], i64 0, str [], .bool false, .slice none 0 0] 91) (Ow.star (Blk b3_2 [.slice none 0 0, i64 0] 77) (Ow.star (Blk b2_1 [str [], str [], i64 0, str [], .bool false, .slice none 0 0] 91) (Ow.star (Sv.own w13_12 9) (Ow.emp)))))) hS ?_ ?_
  ·
   clear hS
   intro k24 hS
   refine Zq (Zr ?_)
   refine Zs ?_
   refine Za ?_
   refine Zl ?_
   refine VC.cond_dec rfl (fun h63 => ?_) (fun h63 => ?_)
   ·
    replace hS := it_t h63 hS
    refine VC.skip_mt (decide (y25_4.1 = [114, 109])) [2, 3, 5, 7, 10, 11, 12, 13, 63] (fun _ _ h => h) hS rfl
   replace hS := it_f h63 hS
   refine Zr ?_
   refine Zs ?_
   refine Za ?_
   refine VL.mt (decide (y25_4.1 = [115, 119, 105, 116, 99, 104])) [2, 3, 5, 7, 10, 11, 12, 13, 63] (fun _ _ h => h) hS rfl
  clear hS
  rintro x63_23 hS
  show VC _ _ _ _ _ [(2, ptr b2_1 0), (3, ptr b3_2 0), (5, str y19_3.2.1), (7, str y25_4.1), (10, i64 y30_5), (11, ptr b11_7 0), (12, ptr b12_9 0), (13, w13_12.val), (63, .bool x63_23)] (Mo.and Mo.tt _) (Ow.star (Blk b12_9 [q39_8_0.parts.val, i64 q39_8_0.err] 77) (Ow.star (Blk b11_7 [str y25_4.1, str [], i64 0, str [], .bool false, .slice none 0 0] 91) (Ow.star (Blk b3_2 [.slice none 0 0, i64 0] 77) (Ow.star (Blk b2_1 [str [], str [], i64 0, str [], .bool false, .slice none 0 0] 91) (Ow.star (Sv.own w13_12 9) (Ow.emp))))))
  refine VC.cond rfl (fun h63 => ?_) (fun h63 => ?_)
  ·
   replace hS := it_t h63 hS
   refine VC.cutJ (S := Bool) (fun (x77_25 : Bool) => x77_25) (fun (x77_25 : Bool) => [(2, ptr b2_1 0), (3, ptr b3_2 0), (5, str y19_3.2.1), (7, str y25_4.1), (10, i64 y30_5), (11, ptr b11_7 0), (12, ptr b12_9 0), (13, w13_12.val), (77, .bool x77_25)]) (fun (x77_25 : Bool) => Mo.tt) (fun (x77_25 : Bool) => Ow.star (Blk b12_9 [q39_8_0.parts.val, i64 q39_8_0.err] 77) (Ow.star (Blk b11_7 [str y25_4.1, str [], i64 0, str [], .bool false, .slice none 0 0] 91) (Ow.star (Blk b3_2 [.slice none 0 0, i64 0] 77) (Ow.star (Blk b2_1 [str [], str [], i64 0, str [], .bool false, .slice none 0 0] 91) (Ow.star (Sv.own w13_12 9) (Ow.emp)))))) hS ?_ ?_
   ·
    clear hS
    intro k26 hS
    refine Zr ?_
    refine Zm ?_
    refine VL.q (q_ln (s := w13_12) Tryz.underlying32 rfl) (by decide) ?_
    refine VL.q (q_gtr rfl rfl) (by decide) ?_
    refine Zm ?_
    refine VL.split_dec 69 rfl (fun h69 => ?_) (fun h69 => ?_)
    ·
     replace hS := it_t h69 hS
     refine Zg ?_
     refine Zg ?_
     refine VL.gy rfl rfl (q_ln (s := w13_12) Tryz.underlying32 rfl) (by decide) ?_
     obtain ⟨b73, hS⟩ := gd_s hS
     refine VL.gy rfl rfl (q_sub rfl rfl b73) (by decide) ?_
     obtain ⟨z74_27, nz74_27, hz74_27, hS⟩ := at_s hS
     refine VL.gy rfl rfl (q_ixo (s := w13_12) Tryz.underlying32 gsz9 rfl rfl nz74_27 (lt_of_get nz74_27 hz74_27)) (by decide) ?_
     refine VL.gy rfl rfl (q_elo (s := w13_12) 9 gone9 rfl hz74_27 rfl) (by decide) ?_
     refine VL.gy rfl rfl (q_seq rfl rfl) (by decide) ?_
     refine Zt ?_
     refine VL.mt (decide (z74_27 = [45, 102])) [2, 3, 5, 7, 10, 11, 12, 13, 77] (fun _ _ h => h) hS rfl
    replace hS := it_f h69 hS
    refine Zn ?_
    refine Zn ?_
    refine Zn ?_
    refine Zn ?_
    refine Zn ?_
    refine Zn ?_
    refine Zn ?_
    refine Zf ?_
    refine VL.mt false [2, 3, 5, 7, 10, 11, 12, 13, 77] (fun _ _ h => h) hS rfl
   clear hS
   rintro x77_25 hS
   show VC _ _ _ _ _ [(2, ptr b2_1 0), (3, ptr b3_2 0), (5, str y19_3.2.1), (7, str y25_4.1), (10, i64 y30_5), (11, ptr b11_7 0), (12, ptr b12_9 0), (13, w13_12.val), (77, .bool x77_25)] (Mo.and Mo.tt _) (Ow.star (Blk b12_9 [q39_8_0.parts.val, i64 q39_8_0.err] 77) (Ow.star (Blk b11_7 [str y25_4.1, str [], i64 0, str [], .bool false, .slice none 0 0] 91) (Ow.star (Blk b3_2 [.slice none 0 0, i64 0] 77) (Ow.star (Blk b2_1 [str [], str [], i64 0, str [], .bool false, .slice none 0 0] 91) (Ow.star (Sv.own w13_12 9) (Ow.emp))))))
   refine VC.cond rfl (fun h77 => ?_) (fun h77 => ?_)
   ·
    replace hS := it_t h77 hS
    refine Zq (Zr ?_)
    refine VL.q (q_field gfa91_4 rfl) (by decide) ?_
    refine VL.store (vc := [.bool true]) (cs' := [str y25_4.1, str [], i64 0, str [], .bool true, .slice none 0 0]) rfl rfl rfl gsz4 rfl rfl (Nat.le_of_ble_eq_true rfl) rfl ?_
    refine Zl ?_
    refine Zr ?_
    refine Zm ?_
    refine Zm ?_
    refine VL.q (q_ln (s := w13_12) Tryz.underlying32 rfl) (by decide) ?_
    obtain ⟨b82, hS⟩ := gd_s hS
    refine VL.q (q_sub rfl rfl b82) (by decide) ?_
    obtain ⟨b83, hS⟩ := gd_s hS
    refine VL.ownT (s := w13_12) Tryz.underlying32 gsz9 rfl rfl b83.1 b83.2 Fo.out (by decide) fun s83_28 hs83_28 => ?_
    replace hS := lt_to hs83_28 hS
    refine Za ?_
    refine VL.mt (s83_28, [], true) [2, 3, 5, 7, 10, 11, 12, 13] (fun _ _ h => h) hS rfl
   replace hS := it_b h77 hS
   refine VC.skip_mt (w13_12, [], false) [2, 3, 5, 7, 10, 11, 12, 13] (fun _ _ h => h) hS rfl
  replace hS := it_b h63 hS
  refine VC.skip_mt (w13_12, [], false) [2, 3, 5, 7, 10, 11, 12, 13] (fun _ _ h => h) hS rfl
 clear hS
 rintro ⟨w13_15, c3_16, c4_17⟩ hS
 show VC _ _ _ _ _ [(2, ptr b2_1 0), (3, ptr b3_2 0), (5, str y19_3.2.1), (7, str y25_4.1), (10, i64 y30_5), (11, ptr b11_7 0), (12, ptr b12_9 0), (13, w13_15.val)] (Mo.and Mo.tt _) (Ow.star (Blk b12_9 [q39_8_0.parts.val, i64 q39_8_0.err] 77) (Ow.star (Blk b11_7 [str y25_4.1, str [], i64 0, str c3_16, .bool c4_17, .slice none 0 0] 91) (Ow.star (Blk b3_2 [.slice none 0 0, i64 0] 77) (Ow.star (Blk b2_1 [str [], str [], i64 0, str [], .bool false, .slice none 0 0] 91) (Ow.star (Sv.own w13_15 9) (Ow.emp))))))
 refine VC.cutJ (S := Sv Str × Str × Int) (fun sg => (sg.1.l, sg.2.1, sg.2.2)) (fun sg => [(2, ptr b2_1 0), (3, ptr b3_2 0), (5, str y19_3.2.1), (7, str y25_4.1), (10, i64 y30_5), (11, ptr b11_7 0), (12, ptr b12_9 0), (13, sg.1.val)]) (fun sg => Mo.tt) (fun sg => Ow.star (Blk b12_9 [q39_8_0.parts.val, i64 q39_8_0.err] 77) (Ow.star (Blk b11_7 [str y25_4.1, str sg.2.1, i64 sg.2.2, str c3_16, .bool c4_17, .slice none 0 0] 91) (Ow.star (Blk b3_2 [.slice none 0 0, i64 0] 77) (Ow.star (Blk b2_1 [str [], str [], i64 0, str [], .bool false, .slice none 0 0] 91) (Ow.star (Sv.own sg.1 9) (Ow.emp)))))) hS ?_ ?_
 ·
  clear hS
  intro k33 hS
  refine Zq (Zr ?_)
  refine Zm ?_
  refine Zl ?_
  refine Zb ?_
  refine VC.cutJ (S := Bool) (fun (x85_34 : Bool) => x85_34) (fun (x85_34 : Bool) => [(2, ptr b2_1 0), (3, ptr b3_2 0), (5, str y19_3.2.1), (7, str y25_4.1), (10, i64 y30_5), (11, ptr b11_7 0), (12, ptr b12_9 0), (13, w13_15.val), (84, str y25_4.1), (85, .bool x85_34)]) (fun (x85_34 : Bool) => Mo.tt) (fun (x85_34 : Bool) => Ow.star (Blk b12_9 [q39_8_0.parts.val, i64 q39_8_0.err] 77) (Ow.star (Blk b11_7 [str y25_4.1, str [], i64 0, str c3_16, .bool c4_17, .slice none 0 0] 91) (Ow.star (Blk b3_2 [.slice none 0 0, i64 0] 77) (Ow.star (Blk b2_1 [str [], str [], i64 0, str [], .bool false, .slice none 0 0] 91) (Ow.star (Sv.own w13_15 9) (Ow.emp)))))) hS ?_ ?_
  ·
   clear hS
   intro k35 hS
   refine Zq (Zr ?_)
   refine Zs ?_
   refine Za ?_
   refine Zl ?_
   refine VC.cond_dec rfl (fun h85 => ?_) (fun h85 => ?_)
   ·
    replace hS := it_t h85 hS
    refine VC.skip_mt (decide (y25_4.1 = [97, 100, 100])) [2, 3, 5, 7, 10, 11, 12, 13, 84, 85] (fun _ _ h => h) hS rfl
   replace hS := it_f h85 hS
   refine Zq (Zr ?_)
   refine Zs ?_
   refine Za ?_
   refine Zl ?_
   refine VC.cond_dec rfl (fun h85 => ?_) (fun h85 => ?_)
   ·
    replace hS := it_t h85 hS
    refine VC.skip_mt (decide (y25_4.1 = [114, 109])) [2, 3, 5, 7, 10, 11, 12, 13, 84, 85] (fun _ _ h => h) hS rfl
   replace hS := it_f h85 hS
   refine Zq (Zr ?_)
   refine Zs ?_
   refine Za ?_
   refine Zl ?_
   refine VC.cond_dec rfl (fun h85 => ?_) (fun h85 => ?_)
   ·
    replace hS := it_t h85 hS
    refine VC.skip_mt (decide (y25_4.1 = [98, 114, 97, 110, 99, 104])) [2, 3, 5, 7, 10, 11, 12, 13, 84, 85] (fun _ _ h => h) hS rfl
   replace hS := it_f h85 hS
   refine Zq (Zr ?_)
   refine Zs ?_
   refine Za ?_
   refine Zl ?_
   refine VC.cond_dec rfl (fun h85 => ?_) (fun h85 => ?_)
   ·
    replace hS := it_t h85 hS
    refine VC.skip_mt (decide (y25_4.1 = [100, 101, 108, 101, 116, 101])) [2, 3, 5, 7, 10, 11, 12, 13, 84, 85] (fun _ _ h => h) hS rfl
   replace hS := it_f h85 hS
   refine Zr ?_
   refine Zs ?_
   refine Za ?_
   refine VL.mt (decide (y25_4.1 = [109, 101, 114, 103, 101])) [2, 3, 5, 7, 10, 11, 12, 13, 84, 85] (fun _ _ h => h) hS rfl
  clear hS
  rintro x85_34 hS
  show VC _ _ _ _ _ [(2, ptr b2_1 0), (3, ptr b3_2 0), (5, str y19_3.2.1), (7, str y25_4.1), (10, i64 y30_5), (11, ptr b11_7 0), (12, ptr b12_9 0), (13, w13_15.val), (84, str y25_4.1), (85, .bool x85_34)] (Mo.and Mo.tt _) (Ow.star (Blk b12_9 [q39_8_0.parts.val, i64 q39_8_0.err] 77) (Ow.star (Blk b11_7 [str y25_4.1, str [], i64 0, str c3_16, .bool c4_17, .slice none 0 0] 91) (Ow.star (Blk b3_2 [.slice none 0 0, i64 0] 77) (Ow.star (Blk b2_1 [str [], str [], i64 0, str [], .bool false, .slice none 0 0] 91) (Ow.star (Sv.own w13_15 9) (Ow.emp))))))
  refine VC.cond rfl (fun h85 => ?_) (fun h85 => ?_)
  ·
   replace hS := it_t h85 hS
   refine VC.cutJ (S := Unit) (fun (_ : Unit) => ()) (fun (_ : Unit) => [(2, ptr b2_1 0), (3, ptr b3_2 0), (5, str y19_3.2.1), (7, str y25_4.1), (10, i64 y30_5), (11, ptr b11_7 0), (12, ptr b12_9 0), (13, w13_15.val)]) (fun (_ : Unit) => Mo.tt) (fun (_ : Unit) => Ow.star (Blk b12_9 [q39_8_0.parts.val, i64 q39_8_0.err] 77) (Ow.star (Blk b11_7 [str y25_4.1, str [], i64 0, str c3_16, .bool c4_17, .slice none 0 0] 91) (Ow.star (Blk b3_2 [.slice none 0 0, i64 0] 77) (Ow.star (Blk b2_1 [str [], str [], i64 0, str [], .bool false, .slice none 0 0] 91) (Ow.star (Sv.own w13_15 9) (Ow.emp)))))) hS ?_ ?_
   ·
    clear hS
    intro k36 hS
    refine Zq (Zr ?_)
    refine Zm ?_
    refine Zs ?_
    refine Zm ?_
    refine VL.split_dec 93 rfl (fun h93 => ?_) (fun h93 => ?_)
    ·
     replace hS := it_t h93 hS
     refine Zg ?_
     refine VL.gy rfl rfl (q_ln (s := w13_15) Tryz.underlying32 rfl) (by decide) ?_
     refine VL.gy rfl rfl (q_eql rfl rfl) (by decide) ?_
     refine Zt ?_
     refine Zl ?_
     refine VC.keep [2, 3, 5, 7, 10, 11, 12, 13, 97] rfl ?_
     refine VC.cond_dec rfl (fun h97 => ?_) (fun h97 => ?_)
     ·
      replace hS := it_t h97 hS
      refine VC.exit_mt (w13_15, [], 0) [2, 3, 5, 7, 10, 11, 12, 13] (fun _ _ h => h) hS rfl
     replace hS := it_f h97 hS
     refine VC.skip_mt () [2, 3, 5, 7, 10, 11, 12, 13] (fun _ _ h => h) hS rfl
    replace hS := it_f h93 hS
    refine Zn ?_
    refine Zn ?_
    refine Zn ?_
    refine Zf ?_
    refine Zl ?_
    refine VC.keep [2, 3, 5, 7, 10, 11, 12, 13, 97] rfl ?_
    refine VC.cond_f rfl ?_
    refine VC.skip_mt () [2, 3, 5, 7, 10, 11, 12, 13] (fun _ _ h => h) hS rfl
   clear hS
   rintro _ hS
   show VC _ _ _ _ _ [(2, ptr b2_1 0), (3, ptr b3_2 0), (5, str y19_3.2.1), (7, str y25_4.1), (10, i64 y30_5), (11, ptr b11_7 0), (12, ptr b12_9 0), (13, w13_15.val)] (Mo.and Mo.tt _) (Ow.star (Blk b12_9 [q39_8_0.parts.val, i64 q39_8_0.err] 77) (Ow.star (Blk b11_7 [str y25_4.1, str [], i64 0, str c3_16, .bool c4_17, .slice none 0 0] 91) (Ow.star (Blk b3_2 [.slice none 0 0, i64 0] 77) (Ow.star (Blk b2_1 [str [], str [], i64 0, str [], .bool false, .slice none 0 0] 91) (Ow.star (Sv.own w13_15 9) (Ow.emp))))))
   refine Zq ?_
   refine VC.cutJ (S := Bool) (fun (x106_37 : Bool) => x106_37) (fun (x106_37 : Bool) => [(2, ptr b2_1 0), (3, ptr b3_2 0), (5, str y19_3.2.1), (7, str y25_4.1), (10, i64 y30_5), (11, ptr b11_7 0), (12, ptr b12_9 0), (13, w13_15.val), (106, .bool x106_37)]) (fun (x106_37 : Bool) => Mo.tt) (fun (x106_37 : Bool) => Ow.star (Blk b12_9 [q39_8_0.parts.val, i64 q39_8_0.err] 77) (Ow.star (Blk b11_7 [str y25_4.1, str [], i64 0, str c3_16, .bool c4_17, .slice none 0 0] 91) (Ow.star (Blk b3_2 [.slice none 0 0, i64 0] 77) (Ow.star (Blk b2_1 [str [], str [], i64 0, str [], .bool false, .slice none 0 0] 91) (Ow.star (Sv.own w13_15 9) (Ow.emp)))))) hS ?_ ?_
   ·
    clear hS
    intro k38 hS
    refine Zr ?_
    refine Zm ?_
    refine VL.q (q_ln (s := w13_15) Tryz.underlying32 rfl) (by decide) ?_
    refine VL.q (q_neq rfl rfl) (by decide) ?_
    refine Zm ?_
    refine VL.split_ndec 101 rfl (fun h101 => ?_) (fun h101 => ?_)
    ·
     replace hS := it_f h101 hS
     refine Zn ?_
     refine Zn ?_
     refine Zn ?_
     refine Zn ?_
     refine Zt ?_
     refine VL.mt true [2, 3, 5, 7, 10, 11, 12, 13, 106] (fun _ _ h => h) hS rfl
    replace hS := it_t h101 hS
    refine Zg ?_
    obtain ⟨z103_39, nz103_39, hz103_39, hS⟩ := at_s hS
    refine VL.gy rfl rfl (q_ixo (s := w13_15) Tryz.underlying32 gsz9 rfl rfl nz103_39 (lt_of_get nz103_39 hz103_39)) (by decide) ?_
    refine VL.gy rfl rfl (q_elo (s := w13_15) 9 gone9 rfl hz103_39 rfl) (by decide) ?_
    refine VL.gy rfl rfl (q_seq rfl rfl) (by decide) ?_
    refine Zf ?_
    refine VL.mt (decide (z103_39 = [])) [2, 3, 5, 7, 10, 11, 12, 13, 106] (fun _ _ h => h) hS rfl
   clear hS
   rintro x106_37 hS
   show VC _ _ _ _ _ [(2, ptr b2_1 0), (3, ptr b3_2 0), (5, str y19_3.2.1), (7, str y25_4.1), (10, i64 y30_5), (11, ptr b11_7 0), (12, ptr b12_9 0), (13, w13_15.val), (106, .bool x106_37)] (Mo.and Mo.tt _) (Ow.star (Blk b12_9 [q39_8_0.parts.val, i64 q39_8_0.err] 77) (Ow.star (Blk b11_7 [str y25_4.1, str [], i64 0, str c3_16, .bool c4_17, .slice none 0 0] 91) (Ow.star (Blk b3_2 [.slice none 0 0, i64 0] 77) (Ow.star (Blk b2_1 [str [], str [], i64 0, str [], .bool false, .slice none 0 0] 91) (Ow.star (Sv.own w13_15 9) (Ow.emp))))))
   refine VC.cond rfl (fun h106 => ?_) (fun h106 => ?_)
   ·
    replace hS := it_t h106 hS
    refine Zq ?_
    refine VC.draw [(0, true), (1, true), (2, false), (3, false)] mixed (by kernel_rfl) (by kernel_rfl) (by kernel_rfl) ?_
    refine VD.q rfl (q_build (vs := []) (cs := #[str [], str [], i64 0, str [], .bool false, .slice none 0 0]) rfl (by kernel_rfl)) (by decide) ?_
    refine VD.q rfl (q_fes gagg77 rfl rfl) (by decide) ?_
    refine VD.one rfl ?_
    refine VL.store (vc := [str [], str [], i64 0, str [], .bool false, .slice none 0 0]) (cs' := [str [], str [], i64 0, str [], .bool false, .slice none 0 0]) rfl rfl rfl gsz91 rfl rfl (Nat.le_of_ble_eq_true rfl) rfl ?_
    refine VL.back (D' := [(1, .agg #[q39_8_0.parts.val, i64 q39_8_0.err])]) (by kernel_rfl) (Pend.cons rfl (q_fes gagg77 rfl rfl) (Pend.nil)) ?_
    refine VD.one rfl ?_
    refine VL.store (vc := [q39_8_0.parts.val, i64 q39_8_0.err]) (cs' := [q39_8_0.parts.val, i64 q39_8_0.err]) rfl rfl rfl gsz77 rfl rfl (Nat.le_of_ble_eq_true rfl) rfl ?_
    refine VL.back (D' := []) (by kernel_rfl) (Pend.nil) ?_
    refine VD.to (fun _ _ h => h) ?_
    refine VC.keep [2, 3] rfl ?_
    cases hS
    exact VC.ret (finG (vs := [.agg #[str [], str [], i64 0, str [], .bool false, .slice none 0 0], .agg #[q39_8_0.parts.val, i64 q39_8_0.err]]) (.inr rfl) rfl (RVs.cell gagg91 rfl rfl Rd.blk (RVs.cell gagg77 rfl rfl Rd.blk (RVs.nil))) (⟨[], [], 0, [], false, ⟨none, 0, []⟩⟩, ⟨q39_8_0.parts, q39_8_0.err⟩) rfl rfl (by (try dsimp only); exact InM.out) (fun _ _ => trivial))
   replace hS := it_b h106 hS
   refine Zk ?_
   refine Zq (Zr ?_)
   refine Zm ?_
   obtain ⟨z110_40, nz110_40, hz110_40, hS⟩ := at_s hS
   refine VL.q (q_ixo (s := w13_15) Tryz.underlying32 gsz9 rfl rfl nz110_40 (lt_of_get nz110_40 hz110_40)) (by decide) ?_
   refine VL.q (q_elo (s := w13_15) 9 gone9 rfl hz110_40 rfl) (by decide) ?_
   refine VL.q (q_field gfa91_1 rfl) (by decide) ?_
   refine VL.store (vc := [str z110_40]) (cs' := [str y25_4.1, str z110_40, i64 0, str c3_16, .bool c4_17, .slice none 0 0]) rfl rfl rfl gsz9 rfl rfl (Nat.le_of_ble_eq_true rfl) rfl ?_
   refine Zl ?_
   refine Zr ?_
   refine Za ?_
   refine VL.nilO (⟨none, 0, []⟩ : Sv Str) 9 ⟨rfl, rfl⟩ ?_
   refine VL.mt (⟨none, 0, []⟩, z110_40, 0) [2, 3, 5, 7, 10, 11, 12, 13] (fun _ _ h => h) hS rfl
  replace hS := it_b h85 hS
  refine Zq (Zr ?_)
  refine Zs ?_
  refine Za ?_
  refine Zl ?_
  refine VC.cond_dec rfl (fun h113 => ?_) (fun h113 => ?_)
  ·
   replace hS := it_t h113 hS
   refine Zq ?_
   refine VC.cutJ (S := Bool) (fun (x123_41 : Bool) => x123_41) (fun (x123_41 : Bool) => [(2, ptr b2_1 0), (3, ptr b3_2 0), (5, str y19_3.2.1), (7, str y25_4.1), (10, i64 y30_5), (11, ptr b11_7 0), (12, ptr b12_9 0), (13, w13_15.val), (123, .bool x123_41)]) (fun (x123_41 : Bool) => Mo.tt) (fun (x123_41 : Bool) => Ow.star (Blk b12_9 [q39_8_0.parts.val, i64 q39_8_0.err] 77) (Ow.star (Blk b11_7 [str y25_4.1, str [], i64 0, str c3_16, .bool c4_17, .slice none 0 0] 91) (Ow.star (Blk b3_2 [.slice none 0 0, i64 0] 77) (Ow.star (Blk b2_1 [str [], str [], i64 0, str [], .bool false, .slice none 0 0] 91) (Ow.star (Sv.own w13_15 9) (Ow.emp)))))) hS ?_ ?_
   ·
    clear hS
    intro k42 hS
    refine Zr ?_
    refine Zm ?_
    refine VL.q (q_ln (s := w13_15) Tryz.underlying32 rfl) (by decide) ?_
    refine VL.q (q_neq rfl rfl) (by decide) ?_
    refine Zm ?_
    refine VL.split_ndec 118 rfl (fun h118 => ?_) (fun h118 => ?_)
    ·
     replace hS := it_f h118 hS
     refine Zn ?_
     refine Zn ?_
     refine Zn ?_
     refine Zn ?_
     refine Zt ?_
     refine VL.mt true [2, 3, 5, 7, 10, 11, 12, 13, 123] (fun _ _ h => h) hS rfl
    replace hS := it_t h118 hS
    refine Zg ?_
    obtain ⟨z120_43, nz120_43, hz120_43, hS⟩ := at_s hS
    refine VL.gy rfl rfl (q_ixo (s := w13_15) Tryz.underlying32 gsz9 rfl rfl nz120_43 (lt_of_get nz120_43 hz120_43)) (by decide) ?_
    refine VL.gy rfl rfl (q_elo (s := w13_15) 9 gone9 rfl hz120_43 rfl) (by decide) ?_
    refine VL.gy rfl rfl (q_seq rfl rfl) (by decide) ?_
    refine Zf ?_
    refine VL.mt (decide (z120_43 = [])) [2, 3, 5, 7, 10, 11, 12, 13, 123] (fun _ _ h => h) hS rfl
   clear hS
   rintro x123_41 hS
   show VC _ _ _ _ _ [(2, ptr b2_1 0), (3, ptr b3_2 0), (5, str y19_3.2.1), (7, str y25_4.1), (10, i64 y30_5), (11, ptr b11_7 0), (12, ptr b12_9 0), (13, w13_15.val), (123, .bool x123_41)] (Mo.and Mo.tt _) (Ow.star (Blk b12_9 [q39_8_0.parts.val, i64 q39_8_0.err] 77) (Ow.star (Blk b11_7 [str y25_4.1, str [], i64 0, str c3_16, .bool c4_17, .slice none 0 0] 91) (Ow.star (Blk b3_2 [.slice none 0 0, i64 0] 77) (Ow.star (Blk b2_1 [str [], str [], i64 0, str [], .bool false, .slice none 0 0] 91) (Ow.star (Sv.own w13_15 9) (Ow.emp))))))
   refine VC.cond rfl (fun h123 => ?_) (fun h123 => ?_)
   ·
    replace hS := it_t h123 hS
    refine Zq ?_
    refine VC.draw [(0, true), (1, true), (2, false), (3, false)] mixed (by kernel_rfl) (by kernel_rfl) (by kernel_rfl) ?_
    refine VD.q rfl (q_build (vs := []) (cs := #[str [], str [], i64 0, str [], .bool false, .slice none 0 0]) rfl (by kernel_rfl)) (by decide) ?_
    refine VD.q rfl (q_fes gagg77 rfl rfl) (by decide) ?_
    refine VD.one rfl ?_
    refine VL.store (vc := [str [], str [], i64 0, str [], .bool false, .slice none 0 0]) (cs' := [str [], str [], i64 0, str [], .bool false, .slice none 0 0]) rfl rfl rfl gsz91 rfl rfl (Nat.le_of_ble_eq_true rfl) rfl ?_
    refine VL.back (D' := [(1, .agg #[q39_8_0.parts.val, i64 q39_8_0.err])]) (by kernel_rfl) (Pend.cons rfl (q_fes gagg77 rfl rfl) (Pend.nil)) ?_
    refine VD.one rfl ?_
    refine VL.store (vc := [q39_8_0.parts.val, i64 q39_8_0.err]) (cs' := [q39_8_0.parts.val, i64 q39_8_0.err]) rfl rfl rfl gsz77 rfl rfl (Nat.le_of_ble_eq_true rfl) rfl ?_
    refine VL.back (D' := []) (by kernel_rfl) (Pend.nil) ?_
    refine VD.to (fun _ _ h => h) ?_
    refine VC.keep [2, 3] rfl ?_
    cases hS
    exact VC.ret (finG (vs := [.agg #[str [], str [], i64 0, str [], .bool false, .slice none 0 0], .agg #[q39_8_0.parts.val, i64 q39_8_0.err]]) (.inr rfl) rfl (RVs.cell gagg91 rfl rfl Rd.blk (RVs.cell gagg77 rfl rfl Rd.blk (RVs.nil))) (⟨[], [], 0, [], false, ⟨none, 0, []⟩⟩, ⟨q39_8_0.parts, q39_8_0.err⟩) rfl rfl (by (try dsimp only); exact InM.out) (fun _ _ => trivial))
   replace hS := it_b h123 hS
   refine Zk ?_
   refine Zq ?_
   refine VC.cutJ (S := Bool) (fun (x137_44 : Bool) => x137_44) (fun (x137_44 : Bool) => [(2, ptr b2_1 0), (3, ptr b3_2 0), (5, str y19_3.2.1), (7, str y25_4.1), (10, i64 y30_5), (11, ptr b11_7 0), (12, ptr b12_9 0), (13, w13_15.val), (137, .bool x137_44)]) (fun (x137_44 : Bool) => Mo.tt) (fun (x137_44 : Bool) => Ow.star (Blk b12_9 [q39_8_0.parts.val, i64 q39_8_0.err] 77) (Ow.star (Blk b11_7 [str y25_4.1, str [], i64 0, str c3_16, .bool c4_17, .slice none 0 0] 91) (Ow.star (Blk b3_2 [.slice none 0 0, i64 0] 77) (Ow.star (Blk b2_1 [str [], str [], i64 0, str [], .bool false, .slice none 0 0] 91) (Ow.star (Sv.own w13_15 9) (Ow.emp)))))) hS ?_ ?_
   ·
    clear hS
    intro k45 hS
    refine Zr ?_
    refine Zm ?_
    obtain ⟨z127_46, nz127_46, hz127_46, hS⟩ := at_s hS
    refine VL.q (q_ixo (s := w13_15) Tryz.underlying32 gsz9 rfl rfl nz127_46 (lt_of_get nz127_46 hz127_46)) (by decide) ?_
    refine VL.q (q_elo (s := w13_15) 9 gone9 rfl hz127_46 rfl) (by decide) ?_
    obtain ⟨z129_47, nz129_47, hz129_47, hS⟩ := at_s hS
    refine VL.q (q_sidx Tryz.underlying9 rfl rfl nz129_47 hz129_47) (by decide) ?_
    refine VL.q (q_geq rfl rfl) (by decide) ?_
    refine Zm ?_
    refine VL.split_dec 131 rfl (fun h131 => ?_) (fun h131 => ?_)
    ·
     replace hS := it_t h131 hS
     refine Zg ?_
     obtain ⟨z133_48, nz133_48, hz133_48, hS⟩ := at_s hS
     refine VL.gy rfl rfl (q_ixo (s := w13_15) Tryz.underlying32 gsz9 rfl rfl nz133_48 (lt_of_get nz133_48 hz133_48)) (by decide) ?_
     refine VL.gy rfl rfl (q_elo (s := w13_15) 9 gone9 rfl hz133_48 rfl) (by decide) ?_
     obtain ⟨z135_49, nz135_49, hz135_49, hS⟩ := at_s hS
     refine VL.gy rfl rfl (q_sidx Tryz.underlying9 rfl rfl nz135_49 hz135_49) (by decide) ?_
     refine VL.gy rfl rfl (q_leq rfl rfl) (by decide) ?_
     refine Zt ?_
     refine VL.mt (decide ((z135_49.toNat : Int) ≤ 57)) [2, 3, 5, 7, 10, 11, 12, 13, 137] (fun _ _ h => h) hS rfl
    replace hS := it_f h131 hS
    refine Zn ?_
    refine Zn ?_
    refine Zn ?_
    refine Zn ?_
    refine Zn ?_
    refine Zf ?_
    refine VL.mt false [2, 3, 5, 7, 10, 11, 12, 13, 137] (fun _ _ h => h) hS rfl
   clear hS
   rintro x137_44 hS
   show VC _ _ _ _ _ [(2, ptr b2_1 0), (3, ptr b3_2 0), (5, str y19_3.2.1), (7, str y25_4.1), (10, i64 y30_5), (11, ptr b11_7 0), (12, ptr b12_9 0), (13, w13_15.val), (137, .bool x137_44)] (Mo.and Mo.tt _) (Ow.star (Blk b12_9 [q39_8_0.parts.val, i64 q39_8_0.err] 77) (Ow.star (Blk b11_7 [str y25_4.1, str [], i64 0, str c3_16, .bool c4_17, .slice none 0 0] 91) (Ow.star (Blk b3_2 [.slice none 0 0, i64 0] 77) (Ow.star (Blk b2_1 [str [], str [], i64 0, str [], .bool false, .slice none 0 0] 91) (Ow.star (Sv.own w13_15 9) (Ow.emp))))))
   refine VC.cond rfl (fun h137 => ?_) (fun h137 => ?_)
   ·
    replace hS := it_t h137 hS
    refine Zq (Zr ?_)
    refine Zm ?_
    obtain ⟨z139_50, nz139_50, hz139_50, hS⟩ := at_s hS
    refine VL.q (q_ixo (s := w13_15) Tryz.underlying32 gsz9 rfl rfl nz139_50 (lt_of_get nz139_50 hz139_50)) (by decide) ?_
    refine VL.q (q_elo (s := w13_15) 9 gone9 rfl hz139_50 rfl) (by decide) ?_
    obtain ⟨y141_51, ey141_51, hS⟩ := bd_s hS
    refine VL.q (q_call (rectoref17_Number_ct z139_50 ey141_51) rfl (fun _ _ => rfl)) (by decide) ?_
    refine VL.q (q_field gfa91_2 rfl) (by decide) ?_
    refine VL.store (vc := [i64 y141_51]) (cs' := [str y25_4.1, str [], i64 y141_51, str c3_16, .bool c4_17, .slice none 0 0]) rfl rfl rfl gsz3 rfl rfl (Nat.le_of_ble_eq_true rfl) rfl ?_
    refine Zl ?_
    refine VC.keep [2, 3, 5, 7, 10, 11, 12] rfl ?_
    refine Zq (Zr ?_)
    refine VL.q (q_field gfa91_2 rfl) (by decide) ?_
    refine VL.q (q_fe gone3 rfl rfl) (by decide) ?_
    refine VL.q (q_lss rfl rfl) (by decide) ?_
    refine Zl ?_
    refine VC.cond_dec rfl (fun h145 => ?_) (fun h145 => ?_)
    ·
     replace hS := it_t h145 hS
     refine Zq ?_
     refine VC.draw [(0, true), (1, true), (2, false), (3, false)] mixed (by kernel_rfl) (by kernel_rfl) (by kernel_rfl) ?_
     refine VD.q rfl (q_build (vs := []) (cs := #[str [], str [], i64 0, str [], .bool false, .slice none 0 0]) rfl (by kernel_rfl)) (by decide) ?_
     refine VD.q rfl (q_fes gagg77 rfl rfl) (by decide) ?_
     refine VD.one rfl ?_
     refine VL.store (vc := [str [], str [], i64 0, str [], .bool false, .slice none 0 0]) (cs' := [str [], str [], i64 0, str [], .bool false, .slice none 0 0]) rfl rfl rfl gsz91 rfl rfl (Nat.le_of_ble_eq_true rfl) rfl ?_
     refine VL.back (D' := [(1, .agg #[q39_8_0.parts.val, i64 q39_8_0.err])]) (by kernel_rfl) (Pend.cons rfl (q_fes gagg77 rfl rfl) (Pend.nil)) ?_
     refine VD.one rfl ?_
     refine VL.store (vc := [q39_8_0.parts.val, i64 q39_8_0.err]) (cs' := [q39_8_0.parts.val, i64 q39_8_0.err]) rfl rfl rfl gsz77 rfl rfl (Nat.le_of_ble_eq_true rfl) rfl ?_
     refine VL.back (D' := []) (by kernel_rfl) (Pend.nil) ?_
     refine VD.to (fun _ _ h => h) ?_
     refine VC.keep [2, 3] rfl ?_
     cases hS
     exact VC.ret (finG (vs := [.agg #[str [], str [], i64 0, str [], .bool false, .slice none 0 0], .agg #[q39_8_0.parts.val, i64 q39_8_0.err]]) (.inr rfl) rfl (RVs.cell gagg91 rfl rfl Rd.blk (RVs.cell gagg77 rfl rfl Rd.blk (RVs.nil))) (⟨[], [], 0, [], false, ⟨none, 0, []⟩⟩, ⟨q39_8_0.parts, q39_8_0.err⟩) rfl rfl (by (try dsimp only); exact InM.out) (fun _ _ => trivial))
    replace hS := it_f h145 hS
    refine Zk ?_
    refine Zr ?_
    refine Za ?_
    refine VL.nilO (⟨none, 0, []⟩ : Sv Str) 9 ⟨rfl, rfl⟩ ?_
    refine VL.mt (⟨none, 0, []⟩, [], y141_51) [2, 3, 5, 7, 10, 11, 12, 13] (fun _ _ h => h) hS rfl
   replace hS := it_b h137 hS
   refine Zr ?_
   refine Zm ?_
   obtain ⟨z149_52, nz149_52, hz149_52, hS⟩ := at_s hS
   refine VL.q (q_ixo (s := w13_15) Tryz.underlying32 gsz9 rfl rfl nz149_52 (lt_of_get nz149_52 hz149_52)) (by decide) ?_
   refine VL.q (q_elo (s := w13_15) 9 gone9 rfl hz149_52 rfl) (by decide) ?_
   refine VL.q (q_field gfa91_1 rfl) (by decide) ?_
   refine VL.store (vc := [str z149_52]) (cs' := [str y25_4.1, str z149_52, i64 0, str c3_16, .bool c4_17, .slice none 0 0]) rfl rfl rfl gsz9 rfl rfl (Nat.le_of_ble_eq_true rfl) rfl ?_
   refine Zl ?_
   refine Zr ?_
   refine Za ?_
   refine VL.nilO (⟨none, 0, []⟩ : Sv Str) 9 ⟨rfl, rfl⟩ ?_
   refine VL.mt (⟨none, 0, []⟩, z149_52, 0) [2, 3, 5, 7, 10, 11, 12, 13] (fun _ _ h => h) hS rfl
  replace hS := it_f h113 hS
  refine Zq (Zr ?_)
  refine Zs ?_
  refine Za ?_
  refine Zl ?_
  refine VC.cond_dec rfl (fun h152 => ?_) (fun h152 => ?_)
  ·
   replace hS := it_t h152 hS
   refine Zq ?_
   refine VC.cutJ (S := Bool) (fun (x169_53 : Bool) => x169_53) (fun (x169_53 : Bool) => [(2, ptr b2_1 0), (3, ptr b3_2 0), (5, str y19_3.2.1), (7, str y25_4.1), (10, i64 y30_5), (11, ptr b11_7 0), (12, ptr b12_9 0), (13, w13_15.val), (169, .bool x169_53)]) (fun (x169_53 : Bool) => Mo.tt) (fun (x169_53 : Bool) => Ow.star (Blk b12_9 [q39_8_0.parts.val, i64 q39_8_0.err] 77) (Ow.star (Blk b11_7 [str y25_4.1, str [], i64 0, str c3_16, .bool c4_17, .slice none 0 0] 91) (Ow.star (Blk b3_2 [.slice none 0 0, i64 0] 77) (Ow.star (Blk b2_1 [str [], str [], i64 0, str [], .bool false, .slice none 0 0] 91) (Ow.star (Sv.own w13_15 9) (Ow.emp)))))) hS ?_ ?_
   ·
    clear hS
    intro k54 hS
    refine Zr ?_
    refine Zm ?_
    refine VL.q (q_ln (s := w13_15) Tryz.underlying32 rfl) (by decide) ?_
    refine VL.q (q_neq rfl rfl) (by decide) ?_
    refine Zm ?_
    refine VL.split_ndec 157 rfl (fun h157 => ?_) (fun h157 => ?_)
    ·
     replace hS := it_f h157 hS
     refine Zn ?_
     refine Zn ?_
     refine Zn ?_
     refine Zn ?_
     refine Zt ?_
     refine Zm ?_
     refine Zn ?_
     refine Zn ?_
     refine Zn ?_
     refine Zn ?_
     refine Zn ?_
     refine Zt ?_
     refine VL.mt true [2, 3, 5, 7, 10, 11, 12, 13, 169] (fun _ _ h => h) hS rfl
    replace hS := it_t h157 hS
    refine Zg ?_
    obtain ⟨z159_55, nz159_55, hz159_55, hS⟩ := at_s hS
    refine VL.gy rfl rfl (q_ixo (s := w13_15) Tryz.underlying32 gsz9 rfl rfl nz159_55 (lt_of_get nz159_55 hz159_55)) (by decide) ?_
    refine VL.gy rfl rfl (q_elo (s := w13_15) 9 gone9 rfl hz159_55 rfl) (by decide) ?_
    refine VL.gy rfl rfl (q_seq rfl rfl) (by decide) ?_
    refine Zf ?_
    refine Zm ?_
    refine VL.split_dec 163 rfl (fun h163 => ?_) (fun h163 => ?_)
    ·
     replace hS := it_t h163 hS
     refine Zn ?_
     refine Zn ?_
     refine Zn ?_
     refine Zn ?_
     refine Zn ?_
     refine Zt ?_
     refine VL.mt true [2, 3, 5, 7, 10, 11, 12, 13, 169] (fun _ _ h => h) hS rfl
    replace hS := it_f h163 hS
    refine Zg ?_
    obtain ⟨z165_56, nz165_56, hz165_56, hS⟩ := at_s hS
    refine VL.gy rfl rfl (q_ixo (s := w13_15) Tryz.underlying32 gsz9 rfl rfl nz165_56 (lt_of_get nz165_56 hz165_56)) (by decide) ?_
    refine VL.gy rfl rfl (q_elo (s := w13_15) 9 gone9 rfl hz165_56 rfl) (by decide) ?_
    obtain ⟨y167_57, ey167_57, hS⟩ := bd_s hS
    refine VL.gy rfl rfl (q_call (rectoref17_Number_ct z165_56 ey167_57) rfl (fun _ _ => rfl)) (by decide) ?_
    refine VL.gy rfl rfl (q_lss rfl rfl) (by decide) ?_
    refine Zf ?_
    refine VL.mt (decide (y167_57 < 0)) [2, 3, 5, 7, 10, 11, 12, 13, 169] (fun _ _ h => h) hS rfl
   clear hS
   rintro x169_53 hS
   show VC _ _ _ _ _ [(2, ptr b2_1 0), (3, ptr b3_2 0), (5, str y19_3.2.1), (7, str y25_4.1), (10, i64 y30_5), (11, ptr b11_7 0), (12, ptr b12_9 0), (13, w13_15.val), (169, .bool x169_53)] (Mo.and Mo.tt _) (Ow.star (Blk b12_9 [q39_8_0.parts.val, i64 q39_8_0.err] 77) (Ow.star (Blk b11_7 [str y25_4.1, str [], i64 0, str c3_16, .bool c4_17, .slice none 0 0] 91) (Ow.star (Blk b3_2 [.slice none 0 0, i64 0] 77) (Ow.star (Blk b2_1 [str [], str [], i64 0, str [], .bool false, .slice none 0 0] 91) (Ow.star (Sv.own w13_15 9) (Ow.emp))))))
   refine VC.cond rfl (fun h169 => ?_) (fun h169 => ?_)
   ·
    replace hS := it_t h169 hS
    refine Zq ?_
    refine VC.draw [(0, true), (1, true), (2, false), (3, false)] mixed (by kernel_rfl) (by kernel_rfl) (by kernel_rfl) ?_
    refine VD.q rfl (q_build (vs := []) (cs := #[str [], str [], i64 0, str [], .bool false, .slice none 0 0]) rfl (by kernel_rfl)) (by decide) ?_
    refine VD.q rfl (q_fes gagg77 rfl rfl) (by decide) ?_
    refine VD.one rfl ?_
    refine VL.store (vc := [str [], str [], i64 0, str [], .bool false, .slice none 0 0]) (cs' := [str [], str [], i64 0, str [], .bool false, .slice none 0 0]) rfl rfl rfl gsz91 rfl rfl (Nat.le_of_ble_eq_true rfl) rfl ?_
    refine VL.back (D' := [(1, .agg #[q39_8_0.parts.val, i64 q39_8_0.err])]) (by kernel_rfl) (Pend.cons rfl (q_fes gagg77 rfl rfl) (Pend.nil)) ?_
    refine VD.one rfl ?_
    refine VL.store (vc := [q39_8_0.parts.val, i64 q39_8_0.err]) (cs' := [q39_8_0.parts.val, i64 q39_8_0.err]) rfl rfl rfl gsz77 rfl rfl (Nat.le_of_ble_eq_true rfl) rfl ?_
    refine VL.back (D' := []) (by kernel_rfl) (Pend.nil) ?_
    refine VD.to (fun _ _ h => h) ?_
    refine VC.keep [2, 3] rfl ?_
    cases hS
    exact VC.ret (finG (vs := [.agg #[str [], str [], i64 0, str [], .bool false, .slice none 0 0], .agg #[q39_8_0.parts.val, i64 q39_8_0.err]]) (.inr rfl) rfl (RVs.cell gagg91 rfl rfl Rd.blk (RVs.cell gagg77 rfl rfl Rd.blk (RVs.nil))) (⟨[], [], 0, [], false, ⟨none, 0, []⟩⟩, ⟨q39_8_0.parts, q39_8_0.err⟩) rfl rfl (by (try dsimp only); exact InM.out) (fun _ _ => trivial))
   replace hS := it_b h169 hS
   refine Zk ?_
   refine Zq (Zr ?_)
   refine Zm ?_
   obtain ⟨z173_58, nz173_58, hz173_58, hS⟩ := at_s hS
   refine VL.q (q_ixo (s := w13_15) Tryz.underlying32 gsz9 rfl rfl nz173_58 (lt_of_get nz173_58 hz173_58)) (by decide) ?_
   refine VL.q (q_elo (s := w13_15) 9 gone9 rfl hz173_58 rfl) (by decide) ?_
   refine VL.q (q_field gfa91_1 rfl) (by decide) ?_
   refine VL.store (vc := [str z173_58]) (cs' := [str y25_4.1, str z173_58, i64 0, str c3_16, .bool c4_17, .slice none 0 0]) rfl rfl rfl gsz9 rfl rfl (Nat.le_of_ble_eq_true rfl) rfl ?_
   refine Zl ?_
   refine Zq (Zr ?_)
   refine Zm ?_
   obtain ⟨z177_59, nz177_59, hz177_59, hS⟩ := at_s hS
   refine VL.q (q_ixo (s := w13_15) Tryz.underlying32 gsz9 rfl rfl nz177_59 (lt_of_get nz177_59 hz177_59)) (by decide) ?_
   refine VL.q (q_elo (s := w13_15) 9 gone9 rfl hz177_59 rfl) (by decide) ?_
   obtain ⟨y179_60, ey179_60, hS⟩ := bd_s hS
   refine VL.q (q_call (rectoref17_Number_ct z177_59 ey179_60) rfl (fun _ _ => rfl)) (by decide) ?_
   refine VL.q (q_field gfa91_2 rfl) (by decide) ?_
   refine VL.store (vc := [i64 y179_60]) (cs' := [str y25_4.1, str z173_58, i64 y179_60, str c3_16, .bool c4_17, .slice none 0 0]) rfl rfl rfl gsz3 rfl rfl (Nat.le_of_ble_eq_true rfl) rfl ?_
   refine Zl ?_
   refine VC.keep [2, 3, 5, 7, 10, 11, 12] rfl ?_
   refine Zr ?_
   refine Za ?_
   refine VL.nilO (⟨none, 0, []⟩ : Sv Str) 9 ⟨rfl, rfl⟩ ?_
   refine VL.mt (⟨none, 0, []⟩, z173_58, y179_60) [2, 3, 5, 7, 10, 11, 12, 13] (fun _ _ h => h) hS rfl
  replace hS := it_f h152 hS
  refine VC.cutJ (S := Bool) (fun (x181_61 : Bool) => x181_61) (fun (x181_61 : Bool) => [(2, ptr b2_1 0), (3, ptr b3_2 0), (5, str y19_3.2.1), (7, str y25_4.1), (10, i64 y30_5), (11, ptr b11_7 0), (12, ptr b12_9 0), (13, w13_15.val), (181, .bool x181_61)]) (fun (x181_61 : Bool) => Mo.tt) (fun (x181_61 : Bool) => Ow.star (Blk b12_9 [q39_8_0.parts.val, i64 q39_8_0.err] 77) (Ow.star (Blk b11_7 [str y25_4.1, str [], i64 0, str c3_16, .bool c4_17, .slice none 0 0] 91) (Ow.star (Blk b3_2 [.slice none 0 0, i64 0] 77) (Ow.star (Blk b2_1 [str [], str [], i64 0, str [], .bool false, .slice none 0 0] 91) (Ow.star (Sv.own w13_15 9) (Ow.emp)))))) hS ?_ ?_
  ·
   clear hS
   intro k62 hS
   refine Zq (Zr ?_)
   refine Zs ?_
   refine Za ?_
   refine Zl ?_
   refine VC.cond_dec rfl (fun h181 => ?_) (fun h181 => ?_)
   ·
    replace hS := it_t h181 hS
    refine VC.skip_mt (decide (y25_4.1 = [112, 105, 99, 107])) [2, 3, 5, 7, 10, 11, 12, 13, 181] (fun _ _ h => h) hS rfl
   replace hS := it_f h181 hS
   refine Zq (Zr ?_)
   refine Zs ?_
   refine Za ?_
   refine Zl ?_
   refine VC.keep [2, 3, 5, 7, 10, 11, 12, 13, 84, 181] rfl ?_
   refine VC.cond_dec rfl (fun h181 => ?_) (fun h181 => ?_)
   ·
    replace hS := it_t h181 hS
    refine VC.skip_mt (decide (y25_4.1 = [114, 101, 118, 101, 114, 116])) [2, 3, 5, 7, 10, 11, 12, 13, 181] (fun _ _ h => h) hS rfl
   replace hS := it_f h181 hS
   refine Zq (Zr ?_)
   refine Zs ?_
   refine Za ?_
   refine Zl ?_
   refine VC.cond_dec rfl (fun h181 => ?_) (fun h181 => ?_)
   ·
    replace hS := it_t h181 hS
    refine VC.skip_mt (decide (y25_4.1 = [112, 111, 112])) [2, 3, 5, 7, 10, 11, 12, 13, 181] (fun _ _ h => h) hS rfl
   replace hS := it_f h181 hS
   refine Zq (Zr ?_)
   refine Zs ?_
   refine Za ?_
   refine Zl ?_
   refine VC.cond_dec rfl (fun h181 => ?_) (fun h181 => ?_)
   ·
    replace hS := it_t h181 hS
    refine VC.skip_mt (decide (y25_4.1 = [97, 112, 112, 108, 121])) [2, 3, 5, 7, 10, 11, 12, 13, 181] (fun _ _ h => h) hS rfl
   replace hS := it_f h181 hS
   refine Zq (Zr ?_)
   refine Zs ?_
   refine Za ?_
   refine Zl ?_
   refine VC.cond_dec rfl (fun h181 => ?_) (fun h181 => ?_)
   ·
    replace hS := it_t h181 hS
    refine VC.skip_mt (decide (y25_4.1 = [115, 104, 101, 108, 118, 101])) [2, 3, 5, 7, 10, 11, 12, 13, 181] (fun _ _ h => h) hS rfl
   replace hS := it_f h181 hS
   refine Zr ?_
   refine Zs ?_
   refine Za ?_
   refine VL.mt (decide (y25_4.1 = [114, 101, 98, 97, 115, 101])) [2, 3, 5, 7, 10, 11, 12, 13, 181] (fun _ _ h => h) hS rfl
  clear hS
  rintro x181_61 hS
  show VC _ _ _ _ _ [(2, ptr b2_1 0), (3, ptr b3_2 0), (5, str y19_3.2.1), (7, str y25_4.1), (10, i64 y30_5), (11, ptr b11_7 0), (12, ptr b12_9 0), (13, w13_15.val), (181, .bool x181_61)] (Mo.and Mo.tt _) (Ow.star (Blk b12_9 [q39_8_0.parts.val, i64 q39_8_0.err] 77) (Ow.star (Blk b11_7 [str y25_4.1, str [], i64 0, str c3_16, .bool c4_17, .slice none 0 0] 91) (Ow.star (Blk b3_2 [.slice none 0 0, i64 0] 77) (Ow.star (Blk b2_1 [str [], str [], i64 0, str [], .bool false, .slice none 0 0] 91) (Ow.star (Sv.own w13_15 9) (Ow.emp))))))
  refine VC.cond rfl (fun h181 => ?_) (fun h181 => ?_)
  ·
   replace hS := it_t h181 hS
   refine Zq ?_
   refine VC.cutJ (S := Bool) (fun (x197_63 : Bool) => x197_63) (fun (x197_63 : Bool) => [(2, ptr b2_1 0), (3, ptr b3_2 0), (5, str y19_3.2.1), (7, str y25_4.1), (10, i64 y30_5), (11, ptr b11_7 0), (12, ptr b12_9 0), (13, w13_15.val), (197, .bool x197_63)]) (fun (x197_63 : Bool) => Mo.tt) (fun (x197_63 : Bool) => Ow.star (Blk b12_9 [q39_8_0.parts.val, i64 q39_8_0.err] 77) (Ow.star (Blk b11_7 [str y25_4.1, str [], i64 0, str c3_16, .bool c4_17, .slice none 0 0] 91) (Ow.star (Blk b3_2 [.slice none 0 0, i64 0] 77) (Ow.star (Blk b2_1 [str [], str [], i64 0, str [], .bool false, .slice none 0 0] 91) (Ow.star (Sv.own w13_15 9) (Ow.emp)))))) hS ?_ ?_
   ·
    clear hS
    intro k64 hS
    refine Zr ?_
    refine Zm ?_
    refine VL.q (q_ln (s := w13_15) Tryz.underlying32 rfl) (by decide) ?_
    refine VL.q (q_neq rfl rfl) (by decide) ?_
    refine Zm ?_
    refine VL.split_ndec 191 rfl (fun h191 => ?_) (fun h191 => ?_)
    ·
     replace hS := it_f h191 hS
     refine Zn ?_
     refine Zn ?_
     refine Zn ?_
     refine Zn ?_
     refine Zn ?_
     refine Zt ?_
     refine VL.mt true [2, 3, 5, 7, 10, 11, 12, 13, 197] (fun _ _ h => h) hS rfl
    replace hS := it_t h191 hS
    refine Zg ?_
    obtain ⟨z193_65, nz193_65, hz193_65, hS⟩ := at_s hS
    refine VL.gy rfl rfl (q_ixo (s := w13_15) Tryz.underlying32 gsz9 rfl rfl nz193_65 (lt_of_get nz193_65 hz193_65)) (by decide) ?_
    refine VL.gy rfl rfl (q_elo (s := w13_15) 9 gone9 rfl hz193_65 rfl) (by decide) ?_
    obtain ⟨y195_66, ey195_66, hS⟩ := bd_s hS
    refine VL.gy rfl rfl (q_call (rectoref17_Number_ct z193_65 ey195_66) rfl (fun _ _ => rfl)) (by decide) ?_
    refine VL.gy rfl rfl (q_lss rfl rfl) (by decide) ?_
    refine Zf ?_
    refine VL.mt (decide (y195_66 < 0)) [2, 3, 5, 7, 10, 11, 12, 13, 197] (fun _ _ h => h) hS rfl
   clear hS
   rintro x197_63 hS
   show VC _ _ _ _ _ [(2, ptr b2_1 0), (3, ptr b3_2 0), (5, str y19_3.2.1), (7, str y25_4.1), (10, i64 y30_5), (11, ptr b11_7 0), (12, ptr b12_9 0), (13, w13_15.val), (197, .bool x197_63)] (Mo.and Mo.tt _) (Ow.star (Blk b12_9 [q39_8_0.parts.val, i64 q39_8_0.err] 77) (Ow.star (Blk b11_7 [str y25_4.1, str [], i64 0, str c3_16, .bool c4_17, .slice none 0 0] 91) (Ow.star (Blk b3_2 [.slice none 0 0, i64 0] 77) (Ow.star (Blk b2_1 [str [], str [], i64 0, str [], .bool false, .slice none 0 0] 91) (Ow.star (Sv.own w13_15 9) (Ow.emp))))))
   refine VC.cond rfl (fun h197 => ?_) (fun h197 => ?_)
   ·
    replace hS := it_t h197 hS
    refine Zq ?_
    refine VC.draw [(0, true), (1, true), (2, false), (3, false)] mixed (by kernel_rfl) (by kernel_rfl) (by kernel_rfl) ?_
    refine VD.q rfl (q_build (vs := []) (cs := #[str [], str [], i64 0, str [], .bool false, .slice none 0 0]) rfl (by kernel_rfl)) (by decide) ?_
    refine VD.q rfl (q_fes gagg77 rfl rfl) (by decide) ?_
    refine VD.one rfl ?_
    refine VL.store (vc := [str [], str [], i64 0, str [], .bool false, .slice none 0 0]) (cs' := [str [], str [], i64 0, str [], .bool false, .slice none 0 0]) rfl rfl rfl gsz91 rfl rfl (Nat.le_of_ble_eq_true rfl) rfl ?_
    refine VL.back (D' := [(1, .agg #[q39_8_0.parts.val, i64 q39_8_0.err])]) (by kernel_rfl) (Pend.cons rfl (q_fes gagg77 rfl rfl) (Pend.nil)) ?_
    refine VD.one rfl ?_
    refine VL.store (vc := [q39_8_0.parts.val, i64 q39_8_0.err]) (cs' := [q39_8_0.parts.val, i64 q39_8_0.err]) rfl rfl rfl gsz77 rfl rfl (Nat.le_of_ble_eq_true rfl) rfl ?_
    refine VL.back (D' := []) (by kernel_rfl) (Pend.nil) ?_
    refine VD.to (fun _ _ h => h) ?_
    refine VC.keep [2, 3] rfl ?_
    cases hS
    exact VC.ret (finG (vs := [.agg #[str [], str [], i64 0, str [], .bool false, .slice none 0 0], .agg #[q39_8_0.parts.val, i64 q39_8_0.err]]) (.inr rfl) rfl (RVs.cell gagg91 rfl rfl Rd.blk (RVs.cell gagg77 rfl rfl Rd.blk (RVs.nil))) (⟨[], [], 0, [], false, ⟨none, 0, []⟩⟩, ⟨q39_8_0.parts, q39_8_0.err⟩) rfl rfl (by (try dsimp only); exact InM.out) (fun _ _ => trivial))
   replace hS := it_b h197 hS
   refine Zk ?_
   refine Zq (Zr ?_)
   refine Zm ?_
   obtain ⟨z201_67, nz201_67, hz201_67, hS⟩ := at_s hS
   refine VL.q (q_ixo (s := w13_15) Tryz.underlying32 gsz9 rfl rfl nz201_67 (lt_of_get nz201_67 hz201_67)) (by decide) ?_
   refine VL.q (q_elo (s := w13_15) 9 gone9 rfl hz201_67 rfl) (by decide) ?_
   obtain ⟨y203_68, ey203_68, hS⟩ := bd_s hS
   refine VL.q (q_call (rectoref17_Number_ct z201_67 ey203_68) rfl (fun _ _ => rfl)) (by decide) ?_
   refine VL.q (q_field gfa91_2 rfl) (by decide) ?_
   refine VL.store (vc := [i64 y203_68]) (cs' := [str y25_4.1, str [], i64 y203_68, str c3_16, .bool c4_17, .slice none 0 0]) rfl rfl rfl gsz3 rfl rfl (Nat.le_of_ble_eq_true rfl) rfl ?_
   refine Zl ?_
   refine VC.keep [2, 3, 5, 7, 10, 11, 12] rfl ?_
   refine Zr ?_
   refine Za ?_
   refine VL.nilO (⟨none, 0, []⟩ : Sv Str) 9 ⟨rfl, rfl⟩ ?_
   refine VL.mt (⟨none, 0, []⟩, [], y203_68) [2, 3, 5, 7, 10, 11, 12, 13] (fun _ _ h => h) hS rfl
  replace hS := it_b h181 hS
  refine VC.skip_mt (w13_15, [], 0) [2, 3, 5, 7, 10, 11, 12, 13] (fun _ _ h => h) hS rfl
 clear hS
 rintro ⟨w13_30, c1_31, c2_32⟩ hS
 show VC _ _ _ _ _ [(2, ptr b2_1 0), (3, ptr b3_2 0), (5, str y19_3.2.1), (7, str y25_4.1), (10, i64 y30_5), (11, ptr b11_7 0), (12, ptr b12_9 0), (13, w13_30.val)] (Mo.and Mo.tt _) (Ow.star (Blk b12_9 [q39_8_0.parts.val, i64 q39_8_0.err] 77) (Ow.star (Blk b11_7 [str y25_4.1, str c1_31, i64 c2_32, str c3_16, .bool c4_17, .slice none 0 0] 91) (Ow.star (Blk b3_2 [.slice none 0 0, i64 0] 77) (Ow.star (Blk b2_1 [str [], str [], i64 0, str [], .bool false, .slice none 0 0] 91) (Ow.star (Sv.own w13_30 9) (Ow.emp))))))
 refine Zq (Zq (Zr ?_))
 refine Zm ?_
 refine VL.q (q_ln (s := w13_30) Tryz.underlying32 rfl) (by decide) ?_
 refine VL.q (q_gtr rfl rfl) (by decide) ?_
 refine Zl ?_
 refine VC.cond_dec rfl (fun h207 => ?_) (fun h207 => ?_)
 ·
  replace hS := it_t h207 hS
  refine Zq ?_
  refine VC.draw [(0, true), (1, true), (2, false), (3, false)] mixed (by kernel_rfl) (by kernel_rfl) (by kernel_rfl) ?_
  refine VD.q rfl (q_build (vs := []) (cs := #[str [], str [], i64 0, str [], .bool false, .slice none 0 0]) rfl (by kernel_rfl)) (by decide) ?_
  refine VD.q rfl (q_fes gagg77 rfl rfl) (by decide) ?_
  refine VD.one rfl ?_
  refine VL.store (vc := [str [], str [], i64 0, str [], .bool false, .slice none 0 0]) (cs' := [str [], str [], i64 0, str [], .bool false, .slice none 0 0]) rfl rfl rfl gsz91 rfl rfl (Nat.le_of_ble_eq_true rfl) rfl ?_
  refine VL.back (D' := [(1, .agg #[q39_8_0.parts.val, i64 q39_8_0.err])]) (by kernel_rfl) (Pend.cons rfl (q_fes gagg77 rfl rfl) (Pend.nil)) ?_
  refine VD.one rfl ?_
  refine VL.store (vc := [q39_8_0.parts.val, i64 q39_8_0.err]) (cs' := [q39_8_0.parts.val, i64 q39_8_0.err]) rfl rfl rfl gsz77 rfl rfl (Nat.le_of_ble_eq_true rfl) rfl ?_
  refine VL.back (D' := []) (by kernel_rfl) (Pend.nil) ?_
  refine VD.to (fun _ _ h => h) ?_
  refine VC.keep [2, 3] rfl ?_
  cases hS
  exact VC.ret (finG (vs := [.agg #[str [], str [], i64 0, str [], .bool false, .slice none 0 0], .agg #[q39_8_0.parts.val, i64 q39_8_0.err]]) (.inr rfl) rfl (RVs.cell gagg91 rfl rfl Rd.blk (RVs.cell gagg77 rfl rfl Rd.blk (RVs.nil))) (⟨[], [], 0, [], false, ⟨none, 0, []⟩⟩, ⟨q39_8_0.parts, q39_8_0.err⟩) rfl rfl (by (try dsimp only); exact InM.out) (fun _ _ => trivial))
 replace hS := it_f h207 hS
 refine Zk ?_
 refine VC.cutJ (S := Sv Rectoref17Step) (fun (c5_69 : Sv Rectoref17Step) => c5_69.l) (fun (c5_69 : Sv Rectoref17Step) => [(2, ptr b2_1 0), (3, ptr b3_2 0), (11, ptr b11_7 0)]) (fun (c5_69 : Sv Rectoref17Step) => Mo.tt) (fun (c5_69 : Sv Rectoref17Step) => Ow.star (Blk b12_9 [q39_8_0.parts.val, i64 q39_8_0.err] 77) (Ow.star (Blk b11_7 [str y25_4.1, str c1_31, i64 c2_32, str c3_16, .bool c4_17, c5_69.val] 91) (Ow.star (Blk b3_2 [.slice none 0 0, i64 0] 77) (Ow.star (Blk b2_1 [str [], str [], i64 0, str [], .bool false, .slice none 0 0] 91) (Ow.star (Sv.own c5_69 204) (Ow.emp)))))) hS ?_ ?_
 ·
  clear hS
  intro k70 hS
  refine Zq (Zr ?_)
  refine Zm ?_
  refine Zs ?_
  refine Zl ?_
  refine VC.keep [2, 3, 5, 10, 11, 211] rfl ?_
  refine VC.cond_dec rfl (fun h211 => ?_) (fun h211 => ?_)
  ·
   replace hS := it_t h211 hS
   refine Zq (Zr ?_)
   refine Zm ?_
   obtain ⟨y214_71, ey214_71, hS⟩ := bd_s hS
   refine VL.callO (rectoref17_Parse_ct y19_3.2.1 ey214_71) rfl (by decide) ?_
   rintro ⟨q214_71_0, q214_71_1⟩ rfl
   try dsimp only
   refine Zm ?_
   refine VL.q (q_extract rfl rfl) (by decide) ?_
   refine VL.q (q_extract rfl rfl) (by decide) ?_
   refine VL.alloc (cs := [.slice none 0 0, i64 0]) (by kernel_rfl) (by decide) fun b15_72 => ?_
   refine Za ?_
   refine VL.store (vc := [q214_71_1.parts.val, i64 q214_71_1.err]) (cs' := [q214_71_1.parts.val, i64 q214_71_1.err]) rfl rfl rfl gsz77 rfl rfl (Nat.le_of_ble_eq_true rfl) rfl ?_
   refine Zl ?_
   refine VC.keep [2, 3, 10, 11, 15, 14] rfl ?_
   refine Zq (Zq (Zr ?_))
   refine VL.q (q_field gfa77_1 rfl) (by decide) ?_
   refine VL.q (q_fe gone3 rfl rfl) (by decide) ?_
   refine VL.q (q_neq rfl rfl) (by decide) ?_
   refine Zl ?_
   refine VC.cond_ndec rfl (fun h219 => ?_) (fun h219 => ?_)
   ·
    replace hS := it_f h219 hS
    refine Zq (Zr ?_)
    refine VL.q (q_build (vs := []) (cs := #[str [], str [], i64 0, str [], .bool false, .slice none 0 0]) rfl (by kernel_rfl)) (by decide) ?_
    refine Zm ?_
    refine VL.q (q_fes gagg77 rfl rfl) (by decide) ?_
    obtain ⟨y223_73, ey223_73, hS⟩ := bd_s hS
    refine VL.callF (rectoref3_In_ct [99, 109, 100] y30_5 q214_71_1 ey223_73) rfl (by decide) ?_
    rintro q223_73_0 rfl
    try dsimp only
    refine VL.store (vc := [str [], str [], i64 0, str [], .bool false, .slice none 0 0]) (cs' := [str [], str [], i64 0, str [], .bool false, .slice none 0 0]) rfl rfl rfl gsz91 rfl rfl (Nat.le_of_ble_eq_true rfl) rfl ?_
    refine VL.store (vc := [q223_73_0.parts.val, i64 q223_73_0.err]) (cs' := [q223_73_0.parts.val, i64 q223_73_0.err]) rfl rfl rfl gsz77 rfl rfl (Nat.le_of_ble_eq_true rfl) rfl ?_
    refine Zl ?_
    refine VC.keep [2, 3] rfl ?_
    cases hS
    exact VC.ret (finG (vs := [.agg #[str [], str [], i64 0, str [], .bool false, .slice none 0 0], .agg #[q223_73_0.parts.val, i64 q223_73_0.err]]) (.inr rfl) rfl (RVs.cell gagg91 rfl rfl Rd.blk (RVs.cell gagg77 rfl rfl Rd.blk (RVs.nil))) (⟨[], [], 0, [], false, ⟨none, 0, []⟩⟩, ⟨q223_73_0.parts, q223_73_0.err⟩) rfl rfl (by (try dsimp only); exact InM.out) (fun _ _ => trivial))
   replace hS := it_t h219 hS
   refine Zk ?_
   refine Zr ?_
   refine Zm ?_
   refine VL.q (q_field gfa91_5 rfl) (by decide) ?_
   refine VL.store (vc := [q214_71_0.val]) (cs' := [str y25_4.1, str c1_31, i64 c2_32, str c3_16, .bool c4_17, q214_71_0.val]) rfl rfl rfl gsz89 rfl rfl (Nat.le_of_ble_eq_true rfl) rfl ?_
   refine VL.mt q214_71_0 [2, 3, 11] (fun _ _ h => h) hS rfl
  replace hS := it_f h211 hS
  refine VC.nilO (⟨none, 0, []⟩ : Sv Rectoref17Step) 204 ⟨rfl, rfl⟩ ?_
  refine VC.reB b11_7 (cs' := [str y25_4.1, str c1_31, i64 c2_32, str c3_16, .bool c4_17, (⟨none, 0, []⟩ : Sv Rectoref17Step).val]) rfl ?_
  refine VC.skip_mt (⟨none, 0, []⟩ : Sv Rectoref17Step) [2, 3, 11] (fun _ _ h => h) hS rfl
 clear hS
 rintro c5_69 hS
 show VC _ _ _ _ _ [(2, ptr b2_1 0), (3, ptr b3_2 0), (11, ptr b11_7 0)] (Mo.and Mo.tt _) (Ow.star (Blk b12_9 [q39_8_0.parts.val, i64 q39_8_0.err] 77) (Ow.star (Blk b11_7 [str y25_4.1, str c1_31, i64 c2_32, str c3_16, .bool c4_17, c5_69.val] 91) (Ow.star (Blk b3_2 [.slice none 0 0, i64 0] 77) (Ow.star (Blk b2_1 [str [], str [], i64 0, str [], .bool false, .slice none 0 0] 91) (Ow.star (Sv.own c5_69 204) (Ow.emp))))))
 refine Zq (Zr ?_)
 refine VL.q (q_fes gagg91 rfl rfl) (by decide) ?_
 refine VL.shut c5_69 204 (fun _ _ _ _ => trivial) ?_
 obtain ⟨y227_74, ey227_74, hS⟩ := bd_s hS
 refine VL.callF (rectoref17_CheckCmd_ct (⟨y25_4.1, c1_31, c2_32, c3_16, c4_17, c5_69⟩ : Rectoref17Cmd) ey227_74) rfl (by decide) ?_
 rintro q227_74_0 rfl
 try dsimp only
 refine VL.alloc (cs := [.slice none 0 0, i64 0]) (by kernel_rfl) (by decide) fun b16_75 => ?_
 refine VL.store (vc := [q227_74_0.parts.val, i64 q227_74_0.err]) (cs' := [q227_74_0.parts.val, i64 q227_74_0.err]) rfl rfl rfl gsz77 rfl rfl (Nat.le_of_ble_eq_true rfl) rfl ?_
 refine Zl ?_
 refine Zq (Zq (Zr ?_))
 refine VL.q (q_field gfa77_1 rfl) (by decide) ?_
 refine VL.q (q_fe gone3 rfl rfl) (by decide) ?_
 refine VL.q (q_neq rfl rfl) (by decide) ?_
 refine Zl ?_
 refine VC.cond_ndec rfl (fun h230 => ?_) (fun h230 => ?_)
 ·
  replace hS := it_f h230 hS
  refine Zq ?_
  refine VC.draw [(0, true), (1, true), (2, false), (3, false)] mixed (by kernel_rfl) (by kernel_rfl) (by kernel_rfl) ?_
  refine VD.q rfl (q_build (vs := []) (cs := #[str [], str [], i64 0, str [], .bool false, .slice none 0 0]) rfl (by kernel_rfl)) (by decide) ?_
  refine VD.q rfl (q_fes gagg77 rfl rfl) (by decide) ?_
  refine VD.one rfl ?_
  refine VL.store (vc := [str [], str [], i64 0, str [], .bool false, .slice none 0 0]) (cs' := [str [], str [], i64 0, str [], .bool false, .slice none 0 0]) rfl rfl rfl gsz91 rfl rfl (Nat.le_of_ble_eq_true rfl) rfl ?_
  refine VL.back (D' := [(1, .agg #[q227_74_0.parts.val, i64 q227_74_0.err])]) (by kernel_rfl) (Pend.cons rfl (q_fes gagg77 rfl rfl) (Pend.nil)) ?_
  refine VD.one rfl ?_
  refine VL.store (vc := [q227_74_0.parts.val, i64 q227_74_0.err]) (cs' := [q227_74_0.parts.val, i64 q227_74_0.err]) rfl rfl rfl gsz77 rfl rfl (Nat.le_of_ble_eq_true rfl) rfl ?_
  refine VL.back (D' := []) (by kernel_rfl) (Pend.nil) ?_
  refine VD.to (fun _ _ h => h) ?_
  refine VC.keep [2, 3] rfl ?_
  cases hS
  exact VC.ret (finG (vs := [.agg #[str [], str [], i64 0, str [], .bool false, .slice none 0 0], .agg #[q227_74_0.parts.val, i64 q227_74_0.err]]) (.inr rfl) rfl (RVs.cell gagg91 rfl rfl Rd.blk (RVs.cell gagg77 rfl rfl Rd.blk (RVs.nil))) (⟨[], [], 0, [], false, ⟨none, 0, []⟩⟩, ⟨q227_74_0.parts, q227_74_0.err⟩) rfl rfl (by (try dsimp only); exact InM.out) (fun _ _ => trivial))
 replace hS := it_t h230 hS
 refine Zk ?_
 refine Zq ?_
 refine VC.draw [(0, true), (1, true), (2, false), (3, false)] mixed (by kernel_rfl) (by kernel_rfl) (by kernel_rfl) ?_
 refine VD.q rfl (q_fes gagg91 rfl rfl) (by decide) ?_
 refine VD.q rfl (q_fes gagg77 rfl rfl) (by decide) ?_
 refine VD.one rfl ?_
 refine VL.store (vc := [str y25_4.1, str c1_31, i64 c2_32, str c3_16, .bool c4_17, c5_69.val]) (cs' := [str y25_4.1, str c1_31, i64 c2_32, str c3_16, .bool c4_17, c5_69.val]) rfl rfl rfl gsz91 rfl rfl (Nat.le_of_ble_eq_true rfl) rfl ?_
 refine VL.back (D' := [(1, .agg #[q227_74_0.parts.val, i64 q227_74_0.err])]) (by kernel_rfl) (Pend.cons rfl (q_fes gagg77 rfl rfl) (Pend.nil)) ?_
 refine VD.one rfl ?_
 refine VL.store (vc := [q227_74_0.parts.val, i64 q227_74_0.err]) (cs' := [q227_74_0.parts.val, i64 q227_74_0.err]) rfl rfl rfl gsz77 rfl rfl (Nat.le_of_ble_eq_true rfl) rfl ?_
 refine VL.back (D' := []) (by kernel_rfl) (Pend.nil) ?_
 refine VD.to (fun _ _ h => h) ?_
 refine VC.keep [2, 3] rfl ?_
 cases hS
 exact VC.ret (finG (vs := [.agg #[str y25_4.1, str c1_31, i64 c2_32, str c3_16, .bool c4_17, c5_69.val], .agg #[q227_74_0.parts.val, i64 q227_74_0.err]]) (.inr rfl) rfl (RVs.cell gagg91 rfl rfl Rd.blk (RVs.cell gagg77 rfl rfl Rd.blk (RVs.nil))) (⟨y25_4.1, c1_31, c2_32, c3_16, c4_17, c5_69⟩, ⟨q227_74_0.parts, q227_74_0.err⟩) rfl rfl (by (try dsimp only); exact InM.out) (fun _ _ => trivial))
theorem rectoref17_Same_ct (a_0 : Rectoref17Cmd) (b_1 : Rectoref17Cmd) {r : Bool} (hS : Sh.rectoref17_Same a_0.pl b_1.pl = some r) :
 Ct Tryz.prog 51 [.agg #[str a_0.verb, str a_0.name, i64 a_0.n, str a_0.text, .bool a_0.force, a_0.todo.val], .agg #[str b_1.verb, str b_1.name, i64 b_1.n, str b_1.text, .bool b_1.force, b_1.todo.val]] (a_0.todo.ok.and b_1.todo.ok) (Ow.emp) (X := Unit) (fun _ => .bool r) (fun _ => True) (fun _ => Mo.tt) (fun _ => Ow.emp) := by
 refine Ct.of Tryz.func51 rfl (by kernel_rfl) Tryz.ntmps51 (by simp) fun c => ?_
 unfold Sh.rectoref17_Same at hS
 refine Zq (Zr ?_)
 refine VL.box (cs := [str a_0.verb, str a_0.name, i64 a_0.n, str a_0.text, .bool a_0.force, a_0.todo.val]) rfl rfl (by decide) fun b2_1 => ?_
 refine VL.box (cs := [str b_1.verb, str b_1.name, i64 b_1.n, str b_1.text, .bool b_1.force, b_1.todo.val]) rfl rfl (by decide) fun b3_2 => ?_
 refine Za ?_
 refine Zl ?_
 refine Zq ?_
 refine VC.cutJ (S := Bool) (fun (x47_3 : Bool) => x47_3) (fun (x47_3 : Bool) => [(2, ptr b2_1 0), (3, ptr b3_2 0), (47, .bool x47_3)]) (fun (x47_3 : Bool) => Mo.tt) (fun (x47_3 : Bool) => Ow.star (Blk b3_2 [str b_1.verb, str b_1.name, i64 b_1.n, str b_1.text, .bool b_1.force, b_1.todo.val] 91) (Ow.star (Blk b2_1 [str a_0.verb, str a_0.name, i64 a_0.n, str a_0.text, .bool a_0.force, a_0.todo.val] 91) (Ow.emp))) hS ?_ ?_
 ·
  clear hS
  intro k4 hS
  refine Zr ?_
  refine VL.q (q_field gfa91_0 rfl) (by decide) ?_
  refine VL.q (q_fe gone9 rfl rfl) (by decide) ?_
  refine VL.q (q_field gfa91_0 rfl) (by decide) ?_
  refine VL.q (q_fe gone9 rfl rfl) (by decide) ?_
  refine VL.q (q_sne rfl rfl) (by decide) ?_
  refine Zm ?_
  refine VL.split_ndec 11 rfl (fun h11 => ?_) (fun h11 => ?_)
  ·
   replace hS := it_f h11 hS
   refine Zn ?_
   refine Zn ?_
   refine Zn ?_
   refine Zn ?_
   refine Zn ?_
   refine Zt ?_
   refine Zm ?_
   refine Zn ?_
   refine Zn ?_
   refine Zn ?_
   refine Zn ?_
   refine Zn ?_
   refine Zt ?_
   refine Zm ?_
   refine Zn ?_
   refine Zn ?_
   refine Zn ?_
   refine Zn ?_
   refine Zn ?_
   refine Zt ?_
   refine Zm ?_
   refine Zn ?_
   refine Zn ?_
   refine Zn ?_
   refine Zn ?_
   refine Zn ?_
   refine Zt ?_
   refine Zm ?_
   refine Zn ?_
   refine Zn ?_
   refine Zn ?_
   refine Zn ?_
   refine Zn ?_
   refine Zn ?_
   refine Zn ?_
   refine Zt ?_
   refine VL.mt true [2, 3, 47] (fun _ _ h => h) hS rfl
  replace hS := it_t h11 hS
  refine VL.gy rfl rfl (q_field gfa91_1 rfl) (by decide) ?_
  refine VL.gy rfl rfl (q_fe gone9 rfl rfl) (by decide) ?_
  refine VL.gy rfl rfl (q_field gfa91_1 rfl) (by decide) ?_
  refine VL.gy rfl rfl (q_fe gone9 rfl rfl) (by decide) ?_
  refine VL.gy rfl rfl (q_sne rfl rfl) (by decide) ?_
  refine Zf ?_
  refine Zm ?_
  refine VL.split_ndec 18 rfl (fun h18 => ?_) (fun h18 => ?_)
  ·
   replace hS := it_f h18 hS
   refine Zn ?_
   refine Zn ?_
   refine Zn ?_
   refine Zn ?_
   refine Zn ?_
   refine Zt ?_
   refine Zm ?_
   refine Zn ?_
   refine Zn ?_
   refine Zn ?_
   refine Zn ?_
   refine Zn ?_
   refine Zt ?_
   refine Zm ?_
   refine Zn ?_
   refine Zn ?_
   refine Zn ?_
   refine Zn ?_
   refine Zn ?_
   refine Zt ?_
   refine Zm ?_
   refine Zn ?_
   refine Zn ?_
   refine Zn ?_
   refine Zn ?_
   refine Zn ?_
   refine Zn ?_
   refine Zn ?_
   refine Zt ?_
   refine VL.mt true [2, 3, 47] (fun _ _ h => h) hS rfl
  replace hS := it_t h18 hS
  refine VL.gy rfl rfl (q_field gfa91_2 rfl) (by decide) ?_
  refine VL.gy rfl rfl (q_fe gone3 rfl rfl) (by decide) ?_
  refine VL.gy rfl rfl (q_field gfa91_2 rfl) (by decide) ?_
  refine VL.gy rfl rfl (q_fe gone3 rfl rfl) (by decide) ?_
  refine VL.gy rfl rfl (q_neq rfl rfl) (by decide) ?_
  refine Zf ?_
  refine Zm ?_
  refine VL.split_ndec 25 rfl (fun h25 => ?_) (fun h25 => ?_)
  ·
   replace hS := it_f h25 hS
   refine Zn ?_
   refine Zn ?_
   refine Zn ?_
   refine Zn ?_
   refine Zn ?_
   refine Zt ?_
   refine Zm ?_
   refine Zn ?_
   refine Zn ?_
   refine Zn ?_
   refine Zn ?_
   refine Zn ?_
   refine Zt ?_
   refine Zm ?_
   refine Zn ?_
   refine Zn ?_
   refine Zn ?_
   refine Zn ?_
   refine Zn ?_
   refine Zn ?_
   refine Zn ?_
   refine Zt ?_
   refine VL.mt true [2, 3, 47] (fun _ _ h => h) hS rfl
  replace hS := it_t h25 hS
  refine VL.gy rfl rfl (q_field gfa91_3 rfl) (by decide) ?_
  refine VL.gy rfl rfl (q_fe gone9 rfl rfl) (by decide) ?_
  refine VL.gy rfl rfl (q_field gfa91_3 rfl) (by decide) ?_
  refine VL.gy rfl rfl (q_fe gone9 rfl rfl) (by decide) ?_
  refine VL.gy rfl rfl (q_sne rfl rfl) (by decide) ?_
  refine Zf ?_
  refine Zm ?_
  refine VL.split_ndec 32 rfl (fun h32 => ?_) (fun h32 => ?_)
  ·
   replace hS := it_f h32 hS
   refine Zn ?_
   refine Zn ?_
   refine Zn ?_
   refine Zn ?_
   refine Zn ?_
   refine Zt ?_
   refine Zm ?_
   refine Zn ?_
   refine Zn ?_
   refine Zn ?_
   refine Zn ?_
   refine Zn ?_
   refine Zn ?_
   refine Zn ?_
   refine Zt ?_
   refine VL.mt true [2, 3, 47] (fun _ _ h => h) hS rfl
  replace hS := it_t h32 hS
  refine VL.gy rfl rfl (q_field gfa91_4 rfl) (by decide) ?_
  refine VL.gy rfl rfl (q_fe gone4 rfl rfl) (by decide) ?_
  refine VL.gy rfl rfl (q_field gfa91_4 rfl) (by decide) ?_
  refine VL.gy rfl rfl (q_fe gone4 rfl rfl) (by decide) ?_
  refine VL.gy rfl rfl (q_bneq Tryz.underlying4 rfl rfl) (by decide) ?_
  refine Zf ?_
  refine Zm ?_
  refine VL.split_ndec 39 rfl (fun h39 => ?_) (fun h39 => ?_)
  ·
   replace hS := it_f h39 hS
   refine Zn ?_
   refine Zn ?_
   refine Zn ?_
   refine Zn ?_
   refine Zn ?_
   refine Zn ?_
   refine Zn ?_
   refine Zt ?_
   refine VL.mt true [2, 3, 47] (fun _ _ h => h) hS rfl
  replace hS := it_t h39 hS
  refine VL.gy rfl rfl (q_field gfa91_5 rfl) (by decide) ?_
  refine VL.gy rfl rfl (q_fe gone89 rfl rfl) (by decide) ?_
  refine VL.gy rfl rfl (q_ln (s := a_0.todo) Tryz.underlying89 rfl) (by decide) ?_
  refine VL.gy rfl rfl (q_field gfa91_5 rfl) (by decide) ?_
  refine VL.gy rfl rfl (q_fe gone89 rfl rfl) (by decide) ?_
  refine VL.gy rfl rfl (q_ln (s := b_1.todo) Tryz.underlying89 rfl) (by decide) ?_
  refine VL.gy rfl rfl (q_neq rfl rfl) (by decide) ?_
  refine Zf ?_
  refine VL.mt (!decide ((a_0.todo.l.length : Int) = (b_1.todo.l.length : Int))) [2, 3, 47] (fun _ _ h => h) hS rfl
 clear hS
 rintro x47_3 hS
 show VC _ _ _ _ _ [(2, ptr b2_1 0), (3, ptr b3_2 0), (47, .bool x47_3)] (Mo.and Mo.tt _) (Ow.star (Blk b3_2 [str b_1.verb, str b_1.name, i64 b_1.n, str b_1.text, .bool b_1.force, b_1.todo.val] 91) (Ow.star (Blk b2_1 [str a_0.verb, str a_0.name, i64 a_0.n, str a_0.text, .bool a_0.force, a_0.todo.val] 91) (Ow.emp)))
 refine VC.cond rfl (fun h47 => ?_) (fun h47 => ?_)
 ·
  replace hS := it_t h47 hS
  refine Zq (Zr ?_)
  refine Za ?_
  refine Zl ?_
  cases hS
  exact Ze
 replace hS := it_b h47 hS
 refine Zk ?_
 refine Zq (Zq (Zr ?_))
 refine Za ?_
 refine Zl ?_
 refine Zb ?_
 refine VC.iter (S := Int) (fun (i5_5 : Int) => i5_5) (fun (i5_5 : Int) => [(2, ptr b2_1 0), (3, ptr b3_2 0), (5, i64 i5_5)]) (fun (i5_5 : Int) => Mo.tt) (fun (i5_5 : Int) => Ow.star (Blk b3_2 [str b_1.verb, str b_1.name, i64 b_1.n, str b_1.text, .bool b_1.force, b_1.todo.val] 91) (Ow.star (Blk b2_1 [str a_0.verb, str a_0.name, i64 a_0.n, str a_0.text, .bool a_0.force, a_0.todo.val] 91) (Ow.emp))) 0 [2, 3, 5] hS rfl ?_
 clear hS
 rintro i5_5 m1 y1 hS hK1
 show VC _ _ _ _ _ [(2, ptr b2_1 0), (3, ptr b3_2 0), (5, i64 i5_5)] (Mo.and Mo.tt _) (Ow.star (Blk b3_2 [str b_1.verb, str b_1.name, i64 b_1.n, str b_1.text, .bool b_1.force, b_1.todo.val] 91) (Ow.star (Blk b2_1 [str a_0.verb, str a_0.name, i64 a_0.n, str a_0.text, .bool a_0.force, a_0.todo.val] 91) (Ow.emp)))
 refine Zq (Zq (Zr ?_))
 refine Zm ?_
 refine VL.q (q_field gfa91_5 rfl) (by decide) ?_
 refine VL.q (q_fe gone89 rfl rfl) (by decide) ?_
 refine VL.q (q_ln (s := a_0.todo) Tryz.underlying89 rfl) (by decide) ?_
 refine VL.q (q_lss rfl rfl) (by decide) ?_
 refine Zl ?_
 refine VC.cond_dec rfl (fun h52 => ?_) (fun h52 => ?_)
 ·
  replace hS := it_t h52 hS
  refine Zk ?_
  refine Zq (Zb (Zq ?_))
  refine VC.draw ((List.range 11).map fun k => (k, true)) mixed (by kernel_rfl) (by kernel_rfl) (by kernel_rfl) ?_
  refine VD.q rfl (q_field gfa91_5 rfl) (by decide) ?_
  refine VD.q rfl (q_fe gone89 rfl rfl) (by decide) ?_
  refine VD.q rfl (q_move rfl) (by decide) ?_
  obtain ⟨z58_6, nz58_6, hz58_6, hS⟩ := at_s hS
  refine VD.q rfl (q_ixm (s := a_0.todo) Tryz.underlying89 gsz204 rfl rfl nz58_6 (lt_of_get nz58_6 hz58_6)) (by decide) ?_
  refine VD.q rfl (q_els (s := a_0.todo) gagg204 rfl rfl hz58_6) (by decide) ?_
  refine VD.q rfl (q_field gfa91_5 rfl) (by decide) ?_
  refine VD.q rfl (q_fe gone89 rfl rfl) (by decide) ?_
  refine VD.q rfl (q_move rfl) (by decide) ?_
  obtain ⟨z63_7, nz63_7, hz63_7, hS⟩ := at_s hS
  refine VD.q rfl (q_ixm (s := b_1.todo) Tryz.underlying89 gsz204 rfl rfl nz63_7 (lt_of_get nz63_7 hz63_7)) (by decide) ?_
  refine VD.q rfl (q_els (s := b_1.todo) gagg204 rfl rfl hz63_7) (by decide) ?_
  refine VD.q rfl (q_stneq geqg204 (geqs204 z58_6.verb z58_6.commit z58_6.text z63_7.verb z63_7.commit z63_7.text) rfl rfl) (by decide) ?_
  refine VD.to (fun _ _ h => h) ?_
  refine VC.keep [2, 3, 5, 65] rfl ?_
  refine VC.cond_ndec rfl (fun h65 => ?_) (fun h65 => ?_)
  ·
   replace hS := it_f h65 hS
   refine Zq (Zr ?_)
   refine Za ?_
   refine Zl ?_
   replace hS := up2 hS hK1
   cases hS
   exact Ze
  replace hS := it_t h65 hS
  refine Zk ?_
  refine Zr ?_
  refine Zm ?_
  obtain ⟨b54, hS⟩ := gd_s hS
  refine VL.q (q_add rfl rfl b54) (by decide) ?_
  refine Za ?_
  refine VL.rnd (i5_5 + 1) [2, 3, 5] (fun _ _ h => h) (go2 hS hK1) rfl
 replace hS := it_f h52 hS
 replace hS := up2 hS hK1
 refine Zx ?_
 refine Zq (Zr ?_)
 refine Za ?_
 refine Zl ?_
 cases hS
 exact Ze
theorem rectolaw22_CmdBack_ct (c_0 : CmdCmd) {r : Bool} (hS : Sh.rectolaw22_CmdBack c_0.pl = some r) :
 Ct Tryz.prog 10 [.agg #[str c_0.verb, str c_0.name, i64 c_0.n, str c_0.text, .bool c_0.force, c_0.todo.val]] (c_0.todo.ok.and Gl) (Ow.emp) (X := Unit) (fun _ => .bool r) (fun _ => True) (fun _ => Mo.tt) (fun _ => Ow.emp) := by
 refine Ct.of Tryz.func10 rfl (by kernel_rfl) Tryz.ntmps10 (by simp) fun c => ?_
 unfold Sh.rectolaw22_CmdBack at hS
 refine Zq (Zr ?_)
 refine VL.box (cs := [str c_0.verb, str c_0.name, i64 c_0.n, str c_0.text, .bool c_0.force, c_0.todo.val]) rfl rfl (by decide) fun b1_1 => ?_
 refine Za ?_
 refine Zl ?_
 refine Zq (Zq (Zr ?_))
 obtain ⟨y9_2, ey9_2, hS⟩ := bd_s hS
 refine VL.q (q_call (rectolaw22_known_ct ey9_2) rfl (fun _ _ => rfl)) (by decide) ?_
 refine VL.q (q_not rfl) (by decide) ?_
 refine Zl ?_
 refine VC.cond rfl (fun h10 => ?_) (fun h10 => ?_)
 ·
  replace hS := it_t h10 hS
  refine Zq (Zr ?_)
  refine Za ?_
  refine Zl ?_
  cases hS
  exact Ze
 replace hS := it_b h10 hS
 refine Zk ?_
 refine Zq (Zq (Zr ?_))
 refine VL.q (q_fes gagg86 rfl rfl) (by decide) ?_
 obtain ⟨y12_3, ey12_3, hS⟩ := bd_s hS
 refine VL.q (q_call (rectolaw22_Few_ct (⟨c_0.verb, c_0.name, c_0.n, c_0.text, c_0.force, c_0.todo⟩ : CmdCmd) ey12_3) rfl (fun _ _ => rfl)) (by decide) ?_
 refine VL.q (q_not rfl) (by decide) ?_
 refine Zl ?_
 refine VC.cond rfl (fun h13 => ?_) (fun h13 => ?_)
 ·
  replace hS := it_t h13 hS
  refine Zq (Zr ?_)
  refine Za ?_
  refine Zl ?_
  cases hS
  exact Ze
 replace hS := it_b h13 hS
 refine Zk ?_
 refine Zq (Zr ?_)
 refine VL.q (q_fes gagg86 rfl rfl) (by decide) ?_
 obtain ⟨y15_4, ey15_4, hS⟩ := bd_s hS
 refine VL.callF (rectolaw22_Of_ct (⟨c_0.verb, c_0.name, c_0.n, c_0.text, c_0.force, c_0.todo⟩ : CmdCmd) ey15_4) rfl (by decide) ?_
 rintro q15_4_0 rfl
 try dsimp only
 obtain ⟨y16_5, ey16_5, hS⟩ := bd_s hS
 refine VL.callF (rectoref17_CheckCmd_ct (⟨q15_4_0.verb, q15_4_0.name, q15_4_0.n, q15_4_0.text, q15_4_0.force, q15_4_0.todo⟩ : Rectoref17Cmd) ey16_5) rfl (by decide) ?_
 rintro q16_5_0 rfl
 try dsimp only
 refine VL.alloc (cs := [.slice none 0 0, i64 0]) (by kernel_rfl) (by decide) fun b3_6 => ?_
 refine VL.store (vc := [q16_5_0.parts.val, i64 q16_5_0.err]) (cs' := [q16_5_0.parts.val, i64 q16_5_0.err]) rfl rfl rfl gsz77 rfl rfl (Nat.le_of_ble_eq_true rfl) rfl ?_
 refine Zl ?_
 refine VC.keep [1, 3] rfl ?_
 refine Zq ?_
 refine VC.cutJ (S := Bool) (fun (x27_7 : Bool) => x27_7) (fun (x27_7 : Bool) => [(1, ptr b1_1 0), (3, ptr b3_6 0), (27, .bool x27_7)]) (fun (x27_7 : Bool) => Mo.tt) (fun (x27_7 : Bool) => Ow.star (Blk b3_6 [q16_5_0.parts.val, i64 q16_5_0.err] 77) (Ow.star (Blk b1_1 [str c_0.verb, str c_0.name, i64 c_0.n, str c_0.text, .bool c_0.force, c_0.todo.val] 86) (Ow.emp))) hS ?_ ?_
 ·
  clear hS
  intro k8 hS
  refine VC.draw [(0, true), (2, true), (1, false), (3, true), (4, true), (5, true), (6, false), (7, false), (8, true), (9, true), (10, true)] mixed (by kernel_rfl) (by kernel_rfl) (by kernel_rfl) ?_
  refine VD.q rfl (q_fes gagg86 rfl rfl) (by decide) ?_
  refine VD.q rfl (q_fes gagg77 rfl rfl) (by decide) ?_
  refine VD.one rfl ?_
  obtain ⟨y18_9, ey18_9, hS⟩ := bd_s hS
  refine VL.callF (cmd_Check_ct (⟨c_0.verb, c_0.name, c_0.n, c_0.text, c_0.force, c_0.todo⟩ : CmdCmd) ey18_9) rfl (by decide) ?_
  rintro q18_9_0 rfl
  try dsimp only
  refine VL.back (D' := [(2, .agg #[q16_5_0.parts.val, i64 q16_5_0.err])]) (by kernel_rfl) (Pend.cons rfl (q_fes gagg77 rfl rfl) (Pend.nil)) ?_
  obtain ⟨y20_10, ey20_10, hS⟩ := bd_s hS
  refine VD.q rfl (q_call (rectolaw2_Tells_ct q18_9_0 q16_5_0 ey20_10) rfl (fun _ _ => rfl)) (by decide) ?_
  refine VD.q rfl (q_not rfl) (by decide) ?_
  refine VD.q rfl (q_move rfl) (by decide) ?_
  refine VD.split 22 rfl (fun h22 => ?_) (fun h22 => ?_)
  ·
   replace hS := it_t h22 hS
   refine VD.oneN (D' := []) rfl rfl rfl (by decide) (by decide) (by kernel_rfl) (Pend.nil) ?_
   refine VD.oneN (D' := []) rfl rfl rfl (by decide) (by decide) (by kernel_rfl) (Pend.nil) ?_
   refine Zd ?_
   refine Zd ?_
   refine VD.q rfl (q_pick_t rfl rfl) (by decide) ?_
   refine VD.mt true [1, 3, 27] (fun _ _ h => h) hS rfl
  replace hS := it_b h22 hS
  refine VD.oneG rfl rfl rfl ?_
  refine VL.guard rfl rfl ?_
  obtain ⟨y23_11, ey23_11, hS⟩ := bd_s hS
  refine VL.callF (cmd_Verbs_ct ey23_11) rfl (by decide) ?_
  rintro q23_11_0 rfl
  try dsimp only
  refine VL.back (D' := []) (by kernel_rfl) (Pend.nil) ?_
  refine VD.oneG rfl rfl rfl ?_
  refine VL.guard rfl rfl ?_
  obtain ⟨y24_12, ey24_12, hS⟩ := bd_s hS
  refine VL.callF (rectoref17_Verbs_ct ey24_12) rfl (by decide) ?_
  rintro q24_12_0 rfl
  try dsimp only
  refine VL.back (D' := []) (by kernel_rfl) (Pend.nil) ?_
  obtain ⟨y25_13, ey25_13, hS⟩ := bd_s hS
  refine VD.gy rfl rfl rfl (q_call (rectolaw1_Texts_ct q23_11_0 q24_12_0 ey25_13) rfl (fun _ _ => rfl)) (by decide) ?_
  refine VD.gy rfl rfl rfl (q_not rfl) (by decide) ?_
  refine VD.q rfl (q_pick_f rfl rfl) (by decide) ?_
  refine VD.mt (!y25_13) [1, 3, 27] (fun _ _ h => h) hS rfl
 clear hS
 rintro x27_7 hS
 show VC _ _ _ _ _ [(1, ptr b1_1 0), (3, ptr b3_6 0), (27, .bool x27_7)] (Mo.and Mo.tt _) (Ow.star (Blk b3_6 [q16_5_0.parts.val, i64 q16_5_0.err] 77) (Ow.star (Blk b1_1 [str c_0.verb, str c_0.name, i64 c_0.n, str c_0.text, .bool c_0.force, c_0.todo.val] 86) (Ow.emp)))
 refine VC.cond rfl (fun h27 => ?_) (fun h27 => ?_)
 ·
  replace hS := it_t h27 hS
  refine Zq (Zr ?_)
  refine Za ?_
  refine Zl ?_
  cases hS
  exact Ze
 replace hS := it_b h27 hS
 refine Zk ?_
 refine Zq ?_
 refine VC.cutJ (S := Bool) (fun (x35_14 : Bool) => x35_14) (fun (x35_14 : Bool) => [(1, ptr b1_1 0), (35, .bool x35_14)]) (fun (x35_14 : Bool) => Mo.tt) (fun (x35_14 : Bool) => Ow.star (Blk b3_6 [q16_5_0.parts.val, i64 q16_5_0.err] 77) (Ow.star (Blk b1_1 [str c_0.verb, str c_0.name, i64 c_0.n, str c_0.text, .bool c_0.force, c_0.todo.val] 86) (Ow.emp))) hS ?_ ?_
 ·
  clear hS
  intro k15 hS
  refine Zr ?_
  refine VL.q (q_field gfa77_1 rfl) (by decide) ?_
  refine VL.q (q_fe gone3 rfl rfl) (by decide) ?_
  refine VL.q (q_neq rfl rfl) (by decide) ?_
  refine Zm ?_
  refine VL.split_ndec 31 rfl (fun h31 => ?_) (fun h31 => ?_)
  ·
   replace hS := it_f h31 hS
   refine Zn ?_
   refine Zn ?_
   refine Zn ?_
   refine Zt ?_
   refine VL.mt true [1, 35] (fun _ _ h => h) hS rfl
  replace hS := it_t h31 hS
  refine VL.gy rfl rfl (q_field gfa86_2 rfl) (by decide) ?_
  refine VL.gy rfl rfl (q_fe gone3 rfl rfl) (by decide) ?_
  refine VL.gy rfl rfl (q_gtr rfl rfl) (by decide) ?_
  refine Zf ?_
  refine VL.mt (decide (1000000 < c_0.n)) [1, 35] (fun _ _ h => h) hS rfl
 clear hS
 rintro x35_14 hS
 show VC _ _ _ _ _ [(1, ptr b1_1 0), (35, .bool x35_14)] (Mo.and Mo.tt _) (Ow.star (Blk b3_6 [q16_5_0.parts.val, i64 q16_5_0.err] 77) (Ow.star (Blk b1_1 [str c_0.verb, str c_0.name, i64 c_0.n, str c_0.text, .bool c_0.force, c_0.todo.val] 86) (Ow.emp)))
 refine VC.cond rfl (fun h35 => ?_) (fun h35 => ?_)
 ·
  replace hS := it_t h35 hS
  refine Zq (Zr ?_)
  refine Za ?_
  refine Zl ?_
  cases hS
  exact Ze
 replace hS := it_b h35 hS
 refine Zk ?_
 refine Zq (Zr ?_)
 refine VL.q (q_fes gagg86 rfl rfl) (by decide) ?_
 obtain ⟨y37_16, ey37_16, hS⟩ := bd_s hS
 refine VL.q (q_call (cmd_Text_ct (⟨c_0.verb, c_0.name, c_0.n, c_0.text, c_0.force, c_0.todo⟩ : CmdCmd) ey37_16) rfl (fun _ _ => rfl)) (by decide) ?_
 refine Za ?_
 refine Zl ?_
 refine Zq (Zq (Zr ?_))
 refine Zm ?_
 refine VL.q (q_fes gagg86 rfl rfl) (by decide) ?_
 obtain ⟨y40_17, ey40_17, hS⟩ := bd_s hS
 refine VL.callF (rectolaw22_Of_ct (⟨c_0.verb, c_0.name, c_0.n, c_0.text, c_0.force, c_0.todo⟩ : CmdCmd) ey40_17) rfl (by decide) ?_
 rintro q40_17_0 rfl
 try dsimp only
 obtain ⟨y41_18, ey41_18, hS⟩ := bd_s hS
 refine VL.q (q_call (rectoref17_Say_ct (⟨q40_17_0.verb, q40_17_0.name, q40_17_0.n, q40_17_0.text, q40_17_0.force, q40_17_0.todo⟩ : Rectoref17Cmd) ey41_18) rfl (fun _ _ => rfl)) (by decide) ?_
 refine VL.q (q_sne rfl rfl) (by decide) ?_
 refine Zl ?_
 refine VC.cond_ndec rfl (fun h42 => ?_) (fun h42 => ?_)
 ·
  replace hS := it_f h42 hS
  refine Zq (Zr ?_)
  refine Za ?_
  refine Zl ?_
  refine VC.keep [2] rfl ?_
  cases hS
  exact Ze
 replace hS := it_t h42 hS
 refine Zk ?_
 refine Zq (Zr ?_)
 refine Zm ?_
 obtain ⟨y45_19, ey45_19, hS⟩ := bd_s hS
 refine VL.callF (cmd_Parse_ct y37_16 ey45_19) rfl (by decide) ?_
 rintro ⟨q45_19_0, q45_19_1⟩ rfl
 try dsimp only
 refine Zm ?_
 refine VL.q (q_extract rfl rfl) (by decide) ?_
 refine VL.q (q_extract rfl rfl) (by decide) ?_
 refine VL.alloc (cs := [str [], str [], i64 0, str [], .bool false, .slice none 0 0]) (by kernel_rfl) (by decide) fun b5_20 => ?_
 refine VL.store (vc := [str q45_19_0.verb, str q45_19_0.name, i64 q45_19_0.n, str q45_19_0.text, .bool q45_19_0.force, q45_19_0.todo.val]) (cs' := [str q45_19_0.verb, str q45_19_0.name, i64 q45_19_0.n, str q45_19_0.text, .bool q45_19_0.force, q45_19_0.todo.val]) rfl rfl rfl gsz86 rfl rfl (Nat.le_of_ble_eq_true rfl) rfl ?_
 refine Za ?_
 refine Zl ?_
 refine VC.keep [4, 5, 6] rfl ?_
 refine Zq (Zr ?_)
 refine Zm ?_
 obtain ⟨y50_21, ey50_21, hS⟩ := bd_s hS
 refine VL.callF (rectoref17_Hear_ct y37_16 ey50_21) rfl (by decide) ?_
 rintro ⟨q50_21_0, q50_21_1⟩ rfl
 try dsimp only
 refine Zm ?_
 refine VL.q (q_extract rfl rfl) (by decide) ?_
 refine VL.q (q_extract rfl rfl) (by decide) ?_
 refine VL.alloc (cs := [str [], str [], i64 0, str [], .bool false, .slice none 0 0]) (by kernel_rfl) (by decide) fun b7_22 => ?_
 refine VL.alloc (cs := [.slice none 0 0, i64 0]) (by kernel_rfl) (by decide) fun b8_23 => ?_
 refine VL.store (vc := [str q50_21_0.verb, str q50_21_0.name, i64 q50_21_0.n, str q50_21_0.text, .bool q50_21_0.force, q50_21_0.todo.val]) (cs' := [str q50_21_0.verb, str q50_21_0.name, i64 q50_21_0.n, str q50_21_0.text, .bool q50_21_0.force, q50_21_0.todo.val]) rfl rfl rfl gsz91 rfl rfl (Nat.le_of_ble_eq_true rfl) rfl ?_
 refine VL.store (vc := [q50_21_1.parts.val, i64 q50_21_1.err]) (cs' := [q50_21_1.parts.val, i64 q50_21_1.err]) rfl rfl rfl gsz77 rfl rfl (Nat.le_of_ble_eq_true rfl) rfl ?_
 refine Zl ?_
 refine Zq ?_
 refine VC.draw [(0, true), (1, true), (2, true), (3, true), (4, true), (6, true), (5, false), (7, true), (8, true), (9, true), (10, true), (11, true), (12, true), (13, true), (14, true), (15, true), (16, true), (17, true), (18, true), (19, true), (20, true)] mixed (by kernel_rfl) (by kernel_rfl) (by kernel_rfl) ?_
 refine VD.q rfl (q_move rfl) (by decide) ?_
 refine VD.q rfl (q_fes gagg77 rfl rfl) (by decide) ?_
 obtain ⟨y55_24, ey55_24, hS⟩ := bd_s hS
 refine VD.q rfl (q_call (rectolaw2_Tells_ct q45_19_1 q50_21_1 ey55_24) rfl (fun _ _ => rfl)) (by decide) ?_
 refine VD.q rfl (q_move rfl) (by decide) ?_
 refine VD.split 56 rfl (fun h56 => ?_) (fun h56 => ?_)
 ·
  replace hS := it_t h56 hS
  refine VD.gy rfl rfl rfl (q_fes gagg86 rfl rfl) (by decide) ?_
  refine VD.gy rfl rfl rfl (q_fes gagg91 rfl rfl) (by decide) ?_
  refine VD.oneG rfl rfl rfl ?_
  refine VL.guard rfl rfl ?_
  obtain ⟨y58_25, ey58_25, hS⟩ := bd_s hS
  refine VL.callF (rectolaw22_Of_ct (⟨q45_19_0.verb, q45_19_0.name, q45_19_0.n, q45_19_0.text, q45_19_0.force, q45_19_0.todo⟩ : CmdCmd) ey58_25) rfl (by decide) ?_
  rintro q58_25_0 rfl
  try dsimp only
  refine VL.back (D' := [(6, .agg #[str q50_21_0.verb, str q50_21_0.name, i64 q50_21_0.n, str q50_21_0.text, .bool q50_21_0.force, q50_21_0.todo.val])]) (by kernel_rfl) (Pend.consG rfl rfl rfl (q_fes gagg91 rfl rfl) (Pend.nil)) ?_
  obtain ⟨y60_26, ey60_26, hS⟩ := bd_s hS
  refine VD.gy rfl rfl rfl (q_call (rectoref17_Same_ct (⟨q58_25_0.verb, q58_25_0.name, q58_25_0.n, q58_25_0.text, q58_25_0.force, q58_25_0.todo⟩ : Rectoref17Cmd) (⟨q50_21_0.verb, q50_21_0.name, q50_21_0.n, q50_21_0.text, q50_21_0.force, q50_21_0.todo⟩ : Rectoref17Cmd) ey60_26) rfl (fun _ _ => rfl)) (by decide) ?_
  refine VD.q rfl (q_pick_t rfl rfl) (by decide) ?_
  refine VD.q rfl (q_move rfl) (by decide) ?_
  refine VD.split 62 rfl (fun h62 => ?_) (fun h62 => ?_)
  ·
   replace hS := it_t h62 hS
   refine VD.gy rfl rfl rfl (q_field gfa77_1 rfl) (by decide) ?_
   refine VD.gy rfl rfl rfl (q_fe gone3 rfl rfl) (by decide) ?_
   refine VD.gy rfl rfl rfl (q_neq rfl rfl) (by decide) ?_
   refine VD.gy rfl rfl rfl (q_move rfl) (by decide) ?_
   refine VD.split_ndec 66 rfl (fun h66 => ?_) (fun h66 => ?_)
   ·
    replace hS := it_f h66 hS
    refine Zd ?_
    refine Zd ?_
    refine Zd ?_
    refine Zd ?_
    refine VD.gy rfl rfl rfl (q_pick_t rfl rfl) (by decide) ?_
    refine VD.q rfl (q_pick_t rfl rfl) (by decide) ?_
    refine VD.q rfl (q_assign rfl) (by decide) ?_
    refine VD.to (fun _ _ h => h) ?_
    refine VC.keep [2] rfl ?_
    cases hS
    exact Ze
   replace hS := it_t h66 hS
   refine VD.gy rfl rfl rfl (q_fes gagg86 rfl rfl) (by decide) ?_
   obtain ⟨y68_27, ey68_27, hS⟩ := bd_s hS
   refine VD.gy rfl rfl rfl (q_call (cmd_Text_ct (⟨q45_19_0.verb, q45_19_0.name, q45_19_0.n, q45_19_0.text, q45_19_0.force, q45_19_0.todo⟩ : CmdCmd) ey68_27) rfl (fun _ _ => rfl)) (by decide) ?_
   refine VD.gy rfl rfl rfl (q_move rfl) (by decide) ?_
   refine VD.gy rfl rfl rfl (q_seq rfl rfl) (by decide) ?_
   refine VD.gy rfl rfl rfl (q_pick_f rfl rfl) (by decide) ?_
   refine VD.q rfl (q_pick_t rfl rfl) (by decide) ?_
   refine VD.q rfl (q_assign rfl) (by decide) ?_
   refine VD.to (fun _ _ h => h) ?_
   refine VC.keep [2] rfl ?_
   cases hS
   exact Ze
  replace hS := it_b h62 hS
  refine Zd ?_
  refine Zd ?_
  refine Zd ?_
  refine Zd ?_
  refine VD.gu rfl rfl rfl (by decide) ?_
  refine VD.gu rfl rfl rfl (by decide) ?_
  refine VD.gu rfl rfl rfl (by decide) ?_
  refine VD.gu rfl rfl rfl (by decide) ?_
  refine Zd ?_
  refine VD.q rfl (q_pick_f rfl rfl) (by decide) ?_
  refine VD.q rfl (q_assign rfl) (by decide) ?_
  refine VD.to (fun _ _ h => h) ?_
  refine VC.keep [2] rfl ?_
  cases hS
  exact Ze
 replace hS := it_b h56 hS
 refine Zd ?_
 refine Zd ?_
 refine VD.oneN (D' := [(6, undef)]) rfl rfl rfl (by decide) (by decide) (by kernel_rfl) (Pend.consN rfl rfl rfl rfl (Pend.nil)) ?_
 refine Zd ?_
 refine VD.q rfl (q_pick_f rfl rfl) (by decide) ?_
 refine VD.q rfl (q_move rfl) (by decide) ?_
 refine Zd ?_
 refine Zd ?_
 refine Zd ?_
 refine Zd ?_
 refine VD.gu rfl rfl rfl (by decide) ?_
 refine VD.gu rfl rfl rfl (by decide) ?_
 refine VD.gu rfl rfl rfl (by decide) ?_
 refine VD.gu rfl rfl rfl (by decide) ?_
 refine Zd ?_
 refine VD.q rfl (q_pick_f rfl rfl) (by decide) ?_
 refine VD.q rfl (q_assign rfl) (by decide) ?_
 refine VD.to (fun _ _ h => h) ?_
 refine VC.keep [2] rfl ?_
 cases hS
 exact Ze
end Go.Proofs.YtpmhinamcndmeaaGreatDoor
end

section
namespace Go.S
theorem at_get {α : Type} {l : List α} {i : Int} (h0 : 0 ≤ i) (h : i < l.length) : ∃ z, l[i.toNat]? = some z := ⟨_, List.getElem?_eq_getElem (by omega)⟩
theorem eqloop {α : Type} [DecidableEq α] (P : α → α → Prop) [∀ z w, Decidable (P z w)] (hP : ∀ z w, P z w ↔ z = w) (l r : List α) (hl : (l.length : Int) = r.length) (hb : (l.length : Int) ≤ 1000000000) (B : Int → Option (Int ⊕ Bool))
    (hB : ∀ i, B i = if i < (l.length : Int) then (at_ l i).bind (fun z => (at_ r i).bind (fun w => if P z w then gd (I64 (i + 1)) (go (i + 1)) else up (some false))) else up (some true)) : iter B 0 = some (decide (l = r)) := by
  apply Ok.eq
  refine ok_iter (I := fun i => 0 ≤ i ∧ i ≤ l.length ∧ l.take i.toNat = r.take i.toNat) (μ := fun i => (l.length - i).toNat) ?_ ⟨by omega, by omega, rfl⟩
  rintro i ⟨h0, h1, h2⟩
  rw [hB]
  simp only [ok_if, ok_up, ok_bd, ok_gd, ok_go, ok_some, ok_at]
  refine ⟨fun h => ?_, fun h => ?_⟩
  · obtain ⟨z, hz⟩ := at_get h0 h
    obtain ⟨w, hw⟩ := at_get (l := r) h0 (by omega)
    refine ⟨h0, z, hz, h0, w, hw, fun hp => ?_, fun hp => ?_⟩
    · have e := (hP z w).1 hp
      refine ⟨⟨by omega, by omega⟩, ⟨by omega, by omega, ?_⟩, by omega⟩
      rw [show (i + 1).toNat = i.toNat + 1 by omega, List.take_add_one, List.take_add_one, h2, hz, hw, e]
    · have e : z ≠ w := fun e => hp ((hP z w).2 e)
      refine (decide_eq_false fun q => e ?_).symm
      subst q
      rw [hz] at hw
      exact Option.some.inj hw
  · have e : i.toNat = l.length := by omega
    rw [e, List.take_length] at h2
    rw [show l.length = r.length by omega, List.take_length] at h2
    exact (decide_eq_true h2).symm
end Go.S
end

section
namespace Go.S
theorem get_lt {α : Type} {l : List α} {i : Nat} {x : α} (h : l[i]? = some x) : i < l.length := (List.getElem?_eq_some_iff.1 h).1
theorem at_last {α : Type} (l : List α) (z : α) : (l ++ [z])[(((l ++ [z]).length : Int) - 1).toNat]? = some z := by
  rw [show ((((l ++ [z]).length : Int) - 1).toNat) = l.length by simp]
  simp
theorem take_last {α : Type} (l : List α) (z : α) : (l ++ [z]).take (((l ++ [z]).length : Int) - 1).toNat = l := by
  rw [show ((((l ++ [z]).length : Int) - 1).toNat) = l.length by simp]
  simp
theorem take_snoc {α : Type} {l : List α} {i : Int} {z : α} (h0 : 0 ≤ i) (h : l[i.toNat]? = some z) : l.take (i + 1).toNat = l.take i.toNat ++ [z] := by
  rw [show (i + 1).toNat = i.toNat + 1 by omega, List.take_add_one, h]; rfl
theorem ok_jnP {S R : Type} {K : S → Option R} {F : (S → Option R) → Option R} {Q : R → Prop} (P : S → Prop) (hK : ∀ s, P s → Ok (K s) Q) (hF : ∀ K' : S → Option R, (∀ s, P s → Ok (K' s) Q) → Ok (F K') Q) : Ok (jn K F) Q := hF K hK
theorem snoc_ind {α : Type} {P : List α → Prop} (h0 : P []) (h1 : ∀ l b, P l → P (l ++ [b])) (l : List α) : P l := by
  have h : ∀ r : List α, P r.reverse := fun r => by
    induction r with
    | nil => exact h0
    | cons x r ih => rw [List.reverse_cons]; exact h1 _ _ ih
  have := h l.reverse
  rwa [List.reverse_reverse] at this
theorem byte_eq {z : UInt8} {n : Nat} (hn : n < 256) : ((z.toNat : Int) = n) ↔ z = UInt8.ofNat n := by
  constructor
  · intro h
    apply UInt8.toNat_inj.1
    simp [Nat.mod_eq_of_lt hn]; omega
  · intro h
    subst h
    simp [Nat.mod_eq_of_lt hn]
theorem mid1 {α : Type} {s : List α} {i : Int} {z : α} (h0 : 0 ≤ i) (h : s[i.toNat]? = some z) : (s.drop i.toNat).take ((i + 1).toNat - i.toNat) = [z] := by
  obtain ⟨h1, h2⟩ := List.getElem?_eq_some_iff.1 h
  rw [show (i + 1).toNat - i.toNat = 1 by omega, List.drop_eq_getElem_cons h1, h2]
  rfl
theorem drop_cons {α : Type} {s : List α} {i : Int} {z : α} (h0 : 0 ≤ i) (h : s[i.toNat]? = some z) : s.drop i.toNat = z :: s.drop (i + 1).toNat := by
  obtain ⟨h1, h2⟩ := List.getElem?_eq_some_iff.1 h
  rw [show (i + 1).toNat = i.toNat + 1 by omega, List.drop_eq_getElem_cons h1, h2]
end Go.S
end

section
namespace Go.S
open Go
def spl (c : UInt8) : List UInt8 → List (List UInt8)
  | [] => [[]]
  | x :: r => if x = c then [] :: spl c r else match spl c r with
    | [] => [[x]]
    | y :: l => (x :: y) :: l
theorem spl_ne (c : UInt8) : ∀ s, spl c s ≠ []
  | [] => by simp [spl]
  | x :: r => by
    unfold spl
    split
    · simp
    · split <;> simp
theorem spl_len (c : UInt8) : ∀ s, (spl c s).length = s.count c + 1
  | [] => by simp [spl]
  | x :: r => by
    have ih := spl_len c r
    unfold spl
    by_cases h : x = c
    · simp [h, ih]
    · rw [if_neg h, List.count_cons_of_ne (by simpa using h)]
      cases hq : spl c r with
      | nil => exact absurd hq (spl_ne c r)
      | cons y l => rw [hq] at ih; simpa using ih
theorem spl_no {c : UInt8} : ∀ {s : List UInt8}, c ∉ s → spl c s = [s]
  | [], _ => rfl
  | x :: r, h => by
    have hx : x ≠ c := fun e => h (by simp [e])
    rw [spl, if_neg hx, spl_no fun e => h (List.mem_cons_of_mem _ e)]
theorem spl_at {c : UInt8} : ∀ {a : List UInt8} (b : List UInt8), c ∉ a → spl c (a ++ c :: b) = a :: spl c b
  | [], b, _ => by simp [spl]
  | x :: a, b, h => by
    have hx : x ≠ c := fun e => h (by simp [e])
    rw [List.cons_append, spl, if_neg hx, spl_at b fun e => h (List.mem_cons_of_mem _ e)]
theorem spl_snoc (c x : UInt8) : ∀ s, ∃ l y, spl c s = l ++ [y] ∧ spl c (s ++ [x]) = if x = c then l ++ [y, []] else l ++ [y ++ [x]]
  | [] => ⟨[], [], rfl, by by_cases h : x = c <;> simp [spl, h]⟩
  | z :: r => by
    obtain ⟨l, y, h1, h2⟩ := spl_snoc c x r
    by_cases hz : z = c
    · refine ⟨[] :: l, y, by simp [spl, hz, h1], ?_⟩
      rw [List.cons_append, spl, if_pos hz, h2]
      split <;> rfl
    · cases l with
      | nil =>
        refine ⟨[], z :: y, by simp [spl, hz, h1], ?_⟩
        rw [List.cons_append, spl, if_neg hz, h2]
        by_cases hx : x = c <;> simp [hx]
      | cons a l =>
        refine ⟨(z :: a) :: l, y, by simp [spl, hz, h1], ?_⟩
        rw [List.cons_append, spl, if_neg hz, h2]
        by_cases hx : x = c <;> simp [hx]
theorem ix_no {c : UInt8} : ∀ {s : List UInt8}, c ∉ s → Lib.indexByte s c = -1
  | [], _ => rfl
  | x :: r, h => by
    have hx : (x == c) = false := by simpa using fun e : x = c => h (by simp [e])
    rw [Lib.indexByte, hx, ix_no fun e => h (List.mem_cons_of_mem _ e)]
    rfl
theorem ix_at {c : UInt8} : ∀ {a : List UInt8} (b : List UInt8), c ∉ a → Lib.indexByte (a ++ c :: b) c = a.length
  | [], b, _ => by simp [Lib.indexByte]
  | x :: a, b, h => by
    have hx : (x == c) = false := by simpa using fun e : x = c => h (by simp [e])
    rw [List.cons_append, Lib.indexByte, hx, ix_at b fun e => h (List.mem_cons_of_mem _ e)]
    simp
theorem split_mem {c : UInt8} {s : List UInt8} (h : c ∈ s) : ∃ a b, s = a ++ c :: b ∧ c ∉ a := by
  induction s with
  | nil => cases h
  | cons x r ih =>
    by_cases hx : x = c
    · exact ⟨[], r, by simp [hx], by simp⟩
    · rcases List.mem_cons.1 h with q | q
      · exact absurd q.symm hx
      · obtain ⟨a, b, e, hn⟩ := ih q
        exact ⟨x :: a, b, by simp [e], by simp [hn, Ne.symm hx]⟩
theorem byte_of (c : UInt8) : (c.toNat : Int).toNat.toUInt8 = c := by simp
theorem ixB_eq (s : List UInt8) (c : UInt8) : ixB s (c.toNat : Int) = Lib.indexByte s c := by unfold ixB; rw [byte_of]
theorem index_ok (s : List UInt8) (c : UInt8) : Sh.internal_stringslite_Index s [c] = some (Lib.indexByte s c) := by
  apply Ok.eq
  unfold Sh.internal_stringslite_Index
  simp only [ok_jn, ok_if, ok_bd, ok_some, ok_at]
  refine ⟨fun h => by simp at h, fun _ => ⟨fun h => ?_, fun _ => ⟨fun _ => ⟨by omega, c, rfl, ?_⟩, fun h => by simp at h⟩⟩⟩
  · have : s = [c] := by simpa using (of_decide_eq_true h).symm
    rw [this]; simp [Lib.indexByte]
  · unfold Sh.internal_stringslite_IndexByte
    rw [ixB_eq]; exact Ok.of rfl rfl
theorem sindex_ok (s : List UInt8) (c : UInt8) : Sh.strings_Index s [c] = some (Lib.indexByte s c) := by
  unfold Sh.strings_Index
  rw [index_ok]; rfl
theorem count_ok (s : List UInt8) (c : UInt8) : Sh.strings_Count s [c] = some (s.count c : Int) := by
  apply Ok.eq
  unfold Sh.strings_Count
  rw [if_neg (by simp), if_pos (by simp)]
  simp only [ok_bd, ok_at, ok_some]
  refine ⟨by omega, c, rfl, ?_⟩
  unfold cntB Lib.countByte
  rw [byte_of]
theorem split_ok {s : List UInt8} (c : UInt8) (hs : s.length ≤ 1000000000) : Sh.strings_Split s [c] = some (spl c s) := by
  apply Ok.eq
  unfold Sh.strings_Split Sh.strings_genSplit
  rw [ok_bd]
  have hc : s.count c ≤ s.length := List.count_le_length
  simp only [count_ok, ok_jn, ok_if, ok_bd, ok_gd, ok_lt, ok_some, ok_at]
  refine ⟨fun h => by omega, fun _ => ⟨fun h => by simp at h, fun _ => ⟨fun _ => ?_, fun h => by omega⟩⟩⟩
  have hm : (min ((s.count c : Int) + 1) ((s.length : Int) + 1)) = (s.count c : Int) + 1 := by omega
  rw [hm]
  refine ⟨⟨by omega, by omega⟩, ⟨by omega, by omega⟩, ⟨by omega, by omega⟩, ⟨by omega, by omega⟩, ?_⟩
  refine ok_iter (I := fun t => 0 ≤ t.2.2 ∧ t.2.2 + t.1.count c = s.count c ∧ t.2.1.length = s.count c + 1 ∧ t.2.1.take t.2.2.toNat ++ spl c t.1 = spl c s ∧ t.1.length ≤ s.length) (μ := fun t => t.1.length) ?_ ⟨by simp, by simp, by simp, by simp, by simp⟩
  rintro ⟨x, l, i⟩ ⟨i0, i1, i2, i3, i4⟩
  dsimp only at i0 i1 i2 i3 i4 ⊢
  have fin : c ∉ x → Ok (((at_ l i).bind fun z61_20 => lt (l.set i.toNat x) fun ys4_22 => gd (I64 (i + 1)) (gd ((0 : Int) ≤ (i + 1) ∧ (i + 1) ≤ (ys4_22.length : Int)) (lt (ys4_22.take (i + 1).toNat) fun y65_24 => some y65_24)))) (fun a => a = spl c s) := fun hx => by
    rw [spl_no hx] at i3
    rw [List.count_eq_zero_of_not_mem hx] at i1
    simp only [ok_bd, ok_gd, ok_lt, ok_some, ok_at]
    obtain ⟨z, hz⟩ := at_get (l := l) i0 (by omega)
    refine ⟨i0, z, hz, ⟨by omega, by omega⟩, ⟨by omega, by rw [List.length_set]; omega⟩, ?_⟩
    rw [← i3, show (i + 1).toNat = i.toNat + 1 by omega, List.take_add_one, List.getElem?_set, if_pos rfl, if_pos (get_lt hz), List.take_set_of_le (Nat.le_refl _)]
    simp
  simp only [ok_jn, ok_if, ok_up, ok_bd, ok_gd, ok_lt, ok_go, ok_some, ok_at, sindex_ok] at fin ⊢
  refine ⟨fun hi => ?_, fun hi => ?_⟩
  · have hmem : c ∈ x := List.count_pos_iff.1 (by omega)
    obtain ⟨a, b, e, ha⟩ := split_mem hmem
    subst e
    rw [ix_at b ha]
    have hl : (a ++ c :: b).length = a.length + b.length + 1 := by simp; omega
    have hcb : (a ++ c :: b).count c = b.count c + 1 := by simp [List.count_eq_zero_of_not_mem ha]
    obtain ⟨z, hz⟩ := at_get (l := l) i0 (by omega)
    refine ⟨fun h => by omega, fun _ => ⟨⟨by omega, by omega⟩, ⟨by omega, by omega⟩, i0, z, hz, ⟨by simp; omega, by simp; omega⟩, ⟨by simp; omega, by simp; omega⟩, ⟨by omega, by omega⟩, ⟨by omega, ?_, by simpa using i2, ?_, ?_⟩, ?_⟩⟩
    · simp only [List.length_cons, List.length_nil]
      rw [show ((a.length : Int) + ((0 + 1 : Nat) : Int)).toNat = a.length + 1 by omega]
      have : (a ++ c :: b).drop (a.length + 1) = b := by simp
      rw [this]; omega
    · simp only [List.length_cons, List.length_nil]
      rw [show ((a.length : Int) + ((0 + 1 : Nat) : Int)).toNat = a.length + 1 by omega, show ((a.length : Int) + 0).toNat = a.length by omega]
      have e1 : (a ++ c :: b).drop (a.length + 1) = b := by simp
      have e2 : (a ++ c :: b).take a.length = a := by simp
      rw [e1, e2, ← i3, spl_at b ha, show (i + 1).toNat = i.toNat + 1 by omega, List.take_add_one, List.getElem?_set, if_pos rfl, if_pos (get_lt hz), List.take_set_of_le (Nat.le_refl _)]
      simp
    · simp; omega
    · simp; omega
  · exact fin fun hm => by have := List.count_pos_iff.2 hm; omega
theorem spl_part (c : UInt8) : ∀ (s : List UInt8), ∀ y ∈ spl c s, y.length ≤ s.length
  | [], y, h => by simp [spl] at h; simp [h]
  | x :: r, y, h => by
    have ih := spl_part c r
    unfold spl at h
    split at h
    · rcases List.mem_cons.1 h with q | q
      · simp [q]
      · have := ih y q; simp; omega
    · split at h
      · have := List.mem_singleton.1 h; simp [this]
      · next a l hq =>
        rcases List.mem_cons.1 h with q | q
        · have := ih a (by rw [hq]; simp); simp [q]; omega
        · have := ih y (by rw [hq]; simp [q]); simp; omega
end Go.S
end

section
namespace Go.S
open Go
theorem drop1 {α : Type} (x : α) (r : List α) : (x :: r).drop (1 : Int).toNat = r := rfl
def trL (s : List UInt8) : List UInt8 := s.dropWhile (· == 32)
theorem trimLB_ok (s : List UInt8) : Sh.strings_trimLeftByte s ((32 : UInt8).toNat : Int) = some (trL s) := by
  apply Ok.eq
  unfold Sh.strings_trimLeftByte
  refine ok_iter (I := fun t => trL t = trL s) (μ := fun t => t.length) ?_ rfl
  intro t ht
  simp only [ok_if, ok_up, ok_bd, ok_gd, ok_lt, ok_go, ok_some, ok_at]
  cases t with
  | nil => exact ⟨fun h => by simp at h, fun _ => ht⟩
  | cons x r =>
    refine ⟨fun _ => ⟨by omega, x, rfl, fun h => ⟨⟨by omega, by simp; omega⟩, ?_, by simp⟩, fun h => ?_⟩, fun h => absurd (by simp) h⟩
    · have hx : x = 32 := UInt8.toNat_inj.1 (by omega)
      rw [drop1, ← ht, trL, hx]; simp [trL]
    · have hx : (x == 32) = false := by simpa using fun e : x = 32 => h (by rw [e])
      rw [← ht, trL, List.dropWhile_cons, hx]; rfl
theorem trimL_ok (s : List UInt8) : Sh.strings_TrimLeft s [32] = some (trL s) := by
  apply Ok.eq
  unfold Sh.strings_TrimLeft
  simp only [ok_jn, ok_if, ok_bd, ok_some, ok_at]
  refine ⟨fun h => ⟨fun _ => by rw [h]; rfl, fun h => absurd trivial h⟩, fun _ => ⟨fun h => by simp at h, fun _ => ⟨fun _ => ⟨by omega, 32, rfl, fun _ => ⟨by omega, 32, rfl, Ok.of (trimLB_ok s) rfl⟩, fun h => by simp at h⟩, fun h => by simp at h⟩⟩⟩
theorem trL_nil {s : List UInt8} : trL s = [] ↔ ∀ b ∈ s, b = 32 := by
  unfold trL
  induction s with
  | nil => simp
  | cons x r ih =>
    rw [List.dropWhile_cons]
    by_cases h : x = 32
    · simp [h, ih]
    · simp [h]
theorem trimRB_ok {s : List UInt8} (hs : s.length ≤ 1000000000) : Ok (Sh.strings_trimRightByte s ((32 : UInt8).toNat : Int)) fun r => ∃ b, s = r ++ b ∧ ∀ x ∈ b, x = 32 := by
  unfold Sh.strings_trimRightByte
  refine ok_iter (I := fun t => ∃ b, s = t ++ b ∧ ∀ x ∈ b, x = 32) (μ := fun t => t.length) ?_ ⟨[], by simp, by simp⟩
  rintro t ⟨b, hb, hx⟩
  simp only [ok_if, ok_up, ok_bd, ok_gd, ok_lt, ok_go, ok_some, ok_at]
  refine ⟨fun h => ?_, fun _ => ⟨b, hb, hx⟩⟩
  obtain ⟨w, z, rfl⟩ : ∃ w z, t = w ++ [z] := by
    rcases List.eq_nil_or_concat t with e | ⟨w, z, e⟩
    · subst e; simp at h
    · exact ⟨w, z, by simpa using e⟩
  have hlen : (w ++ [z]).length = w.length + 1 := by simp
  have hlm : (w ++ [z]).length ≤ s.length := by rw [hb]; simp
  rw [at_last, take_last]
  refine ⟨⟨by omega, by omega⟩, by omega, z, rfl, fun h => ⟨⟨by omega, by omega⟩, ⟨by omega, by omega⟩, ⟨z :: b, by simp [hb], fun x hx' => ?_⟩, by omega⟩, fun _ => ⟨b, hb, hx⟩⟩
  rcases List.mem_cons.1 hx' with q | q
  · rw [q]; exact UInt8.toNat_inj.1 (by omega)
  · exact hx x q
theorem trim_ok {s : List UInt8} (hs : s.length ≤ 1000000000) : Ok (Sh.strings_Trim s [32]) fun r => r = [] ↔ trL s = [] := by
  unfold Sh.strings_Trim
  simp only [ok_jn, ok_if, ok_bd, ok_some, ok_at]
  refine ⟨fun h => ⟨fun _ => by rw [h]; simp [trL], fun h => absurd trivial h⟩, fun _ => ⟨fun h => by simp at h, fun _ => ⟨fun _ => ⟨by omega, 32, rfl, fun _ => ⟨by omega, 32, rfl, (trimRB_ok hs).mono fun r hr => ⟨by omega, 32, rfl, Ok.of (trimLB_ok r) ?_⟩⟩, fun h => by simp at h⟩, fun h => by simp at h⟩⟩⟩
  obtain ⟨b, hb, hx⟩ := hr
  rw [trL_nil, trL_nil, hb]
  exact ⟨fun h x hx' => (List.mem_append.1 hx').elim (h x) (hx x), fun h x hx' => h x (List.mem_append_left _ hx')⟩
end Go.S
end

section
namespace Go.S
open Go
def goodN (n : Nat) : Bool := decide (97 ≤ n ∧ n ≤ 122) || decide (48 ≤ n ∧ n ≤ 57) || decide (n = 46) || decide (n = 45) || decide (n = 95)
theorem good_all : ∀ i : Fin 256, Sh.path_good ((i.val : Nat) : Int) = some (goodN i.val) ∧ Sh.rectoref1_good ((i.val : Nat) : Int) = some (goodN i.val) := by decide +kernel
theorem good_ok (z : UInt8) : Sh.path_good (z.toNat : Int) = some (goodN z.toNat) := (good_all ⟨z.toNat, z.toNat_lt⟩).1
theorem rgood_ok (z : UInt8) : Sh.rectoref1_good (z.toNat : Int) = some (goodN z.toNat) := (good_all ⟨z.toNat, z.toNat_lt⟩).2
def partS (s : List UInt8) : Bool := !(decide (s = []) || decide (s = [46]) || decide (s = [46, 46])) && s.all fun z => goodN z.toNat
theorem all_snoc {α : Type} (p : α → Bool) (l : List α) (z : α) : (l ++ [z]).all p = (l.all p && p z) := by simp
theorem all_false {α : Type} {p : α → Bool} {l : List α} {z : α} (hz : z ∈ l) (h : p z = false) : l.all p = false := by
  cases hq : l.all p with
  | false => rfl
  | true => rw [List.all_eq_true.1 hq z hz] at h; cases h
theorem part_ok {s : List UInt8} (hs : s.length ≤ 1000000000) : Sh.path_part s = some (partS s) := by
  apply Ok.eq
  unfold Sh.path_part partS
  refine ok_jnP (fun q => q = (decide (s = []) || decide (s = [46]) || decide (s = [46, 46]))) ?_ ?_
  · rintro q rfl
    generalize (decide (s = []) || decide (s = [46]) || decide (s = [46, 46])) = q
    simp only [ok_if, ok_some, ok_gd, ok_lt]
    refine ⟨fun h => by rw [h]; rfl, fun h => ⟨by omega, ?_⟩⟩
    have hq : q = false := by simpa using h
    subst hq
    rw [Bool.not_false, Bool.true_and]
    refine ok_iter (I := fun i => 0 ≤ i ∧ i ≤ s.length ∧ (s.take i.toNat).all (fun z => goodN z.toNat) = true) (μ := fun i => (s.length - i).toNat) ?_ ⟨by omega, by omega, by simp⟩
    rintro i ⟨i0, i1, i2⟩
    simp only [ok_if, ok_up, ok_bd, ok_gd, ok_go, ok_some, ok_at, good_ok]
    refine ⟨fun hi => ?_, fun hi => ?_⟩
    · obtain ⟨z, hz⟩ := at_get (l := s) i0 hi
      refine ⟨i0, z, hz, fun hb => ?_, fun hg => ⟨⟨by omega, by omega⟩, ⟨by omega, by omega, ?_⟩, by omega⟩⟩
      · exact (all_false (p := fun z : UInt8 => goodN z.toNat) (List.mem_of_getElem? hz) (by simpa using hb)).symm
      · rw [take_snoc i0 hz, all_snoc, i2]; simpa using hg
    · rw [← i2, show i.toNat = s.length by omega, List.take_length]
  · intro K hK
    simp only [ok_if]
    refine ⟨fun h => hK _ (by simp [h]), fun h1 => ⟨fun h => hK _ (by simp [h]), fun h2 => hK _ (by simp [h1, h2])⟩⟩
def checkP (p : List UInt8) : Int := if 64 < p.length then 4 else if (spl 47 p).all partS then 0 else 5
theorem pcheck_ok (p : List UInt8) : Sh.path_Check p = some (checkP p) := by
  apply Ok.eq
  unfold Sh.path_Check checkP
  simp only [ok_if, ok_some]
  refine ⟨fun h => by rw [if_pos (by omega)], fun h => ?_⟩
  rw [if_neg (by omega), split_ok 47 (by omega), Option.bind_some]
  have hpart := spl_part 47 p
  have hlen := spl_len 47 p
  have hcnt : p.count 47 ≤ p.length := List.count_le_length
  generalize spl 47 p = L at *
  refine ok_iter (I := fun i => 0 ≤ i ∧ i ≤ L.length ∧ (L.take i.toNat).all partS = true) (μ := fun i => (L.length - i).toNat) ?_ ⟨by omega, by omega, by simp⟩
  rintro i ⟨i0, i1, i2⟩
  simp only [ok_if, ok_up, ok_bd, ok_gd, ok_go, ok_some, ok_at]
  refine ⟨fun hi => ?_, fun hi => ?_⟩
  · obtain ⟨z, hz⟩ := at_get (l := L) i0 hi
    have := hpart z (List.mem_of_getElem? hz)
    refine ⟨i0, z, hz, Ok.of (part_ok (by omega)) ⟨fun hb => ?_, fun hg => ⟨⟨by omega, by omega⟩, ⟨by omega, by omega, ?_⟩, by omega⟩⟩⟩
    · rw [all_false (List.mem_of_getElem? hz) (by simpa using hb)]; rfl
    · rw [take_snoc i0 hz, all_snoc, i2]; simpa using hg
  · rw [show i.toNat = L.length by omega, List.take_length] at i2
    rw [i2]; rfl
theorem parts_ok {s : List UInt8} (hne : s ≠ []) (hs : s.length ≤ 1000000) : Sh.rectoref1_Parts s = some (spl 47 s) := by
  apply Ok.eq
  unfold Sh.rectoref1_Parts
  rw [if_neg hne, ok_lt]
  refine ok_iter (I := fun t => 0 ≤ t.2 ∧ t.2 ≤ s.length ∧ t.1 = spl 47 (s.take t.2.toNat)) (μ := fun t => (s.length - t.2).toNat) ?_ ⟨by simp, by simp, by simp [spl]⟩
  rintro ⟨o, i⟩ ⟨i0, i1, i2⟩
  dsimp only at i0 i1 i2 ⊢
  simp only [ok_jn, ok_if, ok_up, ok_bd, ok_gd, ok_lt, ok_go, ok_some, ok_at]
  refine ⟨fun hi => ?_, fun hi => ?_⟩
  · obtain ⟨z, hz⟩ := at_get (l := s) i0 hi
    obtain ⟨l, y, h1, h2⟩ := spl_snoc 47 z (s.take i.toNat)
    rw [← take_snoc i0 hz] at h2
    rw [← i2] at h1
    have hlen : o.length ≤ s.length + 1 := by
      rw [i2, spl_len]
      have : (s.take i.toNat).count 47 ≤ (s.take i.toNat).length := List.count_le_length
      rw [List.length_take] at this; omega
    subst h1
    have hl1 : (l ++ [y]).length = l.length + 1 := by simp
    refine ⟨i0, z, hz, fun hb => ?_, fun hb => ?_⟩
    · have hz10 : z = 47 := (byte_eq (n := 47) (by decide)).1 hb
      refine ⟨by simp; omega, ⟨by omega, by omega⟩, ⟨by omega, by omega, ?_⟩, by omega⟩
      rw [h2, if_pos hz10]; simp
    · have hz10 : ¬ z = 47 := fun e => hb ((byte_eq (n := 47) (by decide)).2 e)
      have hyl : y.length ≤ s.length := by
        have := spl_part 47 (s.take i.toNat) y (by rw [← i2]; simp)
        rw [List.length_take] at this; omega
      rw [at_last]
      refine ⟨⟨by omega, by omega⟩, ⟨by omega, by omega⟩, by omega, y, rfl, ⟨by omega, by omega⟩, ⟨i0, by omega, by omega⟩, ?_⟩
      rw [mid1 i0 hz]
      refine ⟨by simp; omega, by omega, y, rfl, ⟨by omega, by omega⟩, ⟨by omega, by omega, ?_⟩, by omega⟩
      rw [h2, if_neg hz10, show ((((l ++ [y]).length : Int) - 1).toNat) = l.length by simp]
      simp
  · rw [i2, show i.toNat = s.length by omega, List.take_length]
theorem rpcheck_ok (p : List UInt8) : Sh.rectoref1_Check p = some (checkP p) := by
  apply Ok.eq
  unfold Sh.rectoref1_Check checkP
  simp only [ok_if, ok_some]
  refine ⟨fun h => by rw [if_pos (by omega)], fun h => ?_⟩
  rw [if_neg (by omega)]
  by_cases hne : p = []
  · subst hne; exact Ok.of (a := (5 : Int)) rfl rfl
  rw [parts_ok hne (by omega), Option.bind_some]
  have hpart := spl_part 47 p
  have hlen := spl_len 47 p
  have hcnt : p.count 47 ≤ p.length := List.count_le_length
  generalize spl 47 p = L at *
  rw [if_neg (by omega)]
  refine ok_iter (I := fun i => 0 ≤ i ∧ i ≤ L.length ∧ (L.take i.toNat).all partS = true) (μ := fun i => (L.length - i).toNat) ?_ ⟨by omega, by omega, by simp⟩
  rintro i ⟨i0, i1, i2⟩
  simp only [ok_if, ok_up, ok_some]
  refine ⟨fun hi => ?_, fun hi => ?_⟩
  · obtain ⟨s, hs⟩ := at_get (l := L) i0 hi
    have hsl := hpart s (List.mem_of_getElem? hs)
    refine ok_jnP (fun _ => partS s = true) ?_ ?_
    · intro _ hg
      simp only [ok_gd, ok_go]
      refine ⟨⟨by omega, by omega⟩, ⟨by omega, by omega, ?_⟩, by omega⟩
      rw [take_snoc i0 hs, all_snoc, i2, hg]; rfl
    · intro K hK
      have bad : partS s = false → (5 : Int) = if L.all partS = true then 0 else 5 := fun q => by rw [all_false (List.mem_of_getElem? hs) q]; rfl
      refine ok_jnP (fun q => q = (decide (s = []) || decide (s = [46]) || decide (s = [46, 46]))) ?_ ?_
      · intro q hq
        simp only [ok_if, ok_up, ok_some]
        refine ⟨fun h => bad (by unfold partS; rw [← hq, h]; rfl), fun h => ?_⟩
        have hq' : q = false := by simpa using h
        have hP : partS s = s.all fun z => goodN z.toNat := by unfold partS; rw [← hq, hq']; simp
        refine ok_iter (I := fun k => 0 ≤ k ∧ k ≤ s.length ∧ (s.take k.toNat).all (fun z => goodN z.toNat) = true) (μ := fun k => (s.length - k).toNat) ?_ ⟨by omega, by omega, by simp⟩
        rintro k ⟨k0, k1, k2⟩
        simp only [ok_if, ok_up, ok_bd, ok_gd, ok_go, ok_some, ok_at, rgood_ok]
        refine ⟨i0, s, hs, fun hk => ?_, fun hk => hK () ?_⟩
        · obtain ⟨z, hz⟩ := at_get (l := s) k0 hk
          refine ⟨i0, s, hs, k0, z, hz, fun hb => bad ?_, fun hg => ⟨⟨by omega, by omega⟩, ⟨by omega, by omega, ?_⟩, by omega⟩⟩
          · rw [hP]; exact all_false (p := fun z : UInt8 => goodN z.toNat) (List.mem_of_getElem? hz) (by simpa using hb)
          · rw [take_snoc k0 hz, all_snoc, k2]; simpa using hg
        · rw [hP, ← k2, show k.toNat = s.length by omega, List.take_length]
      · intro K2 hK2
        simp only [ok_if, ok_bd, ok_at]
        refine ⟨i0, s, hs, fun h => hK2 _ (by simp [h]), fun h1 => ⟨i0, s, hs, fun h => hK2 _ (by simp [h]), fun h2 => ⟨i0, s, hs, hK2 _ (by simp [h1, h2])⟩⟩⟩
  · rw [show i.toNat = L.length by omega, List.take_length] at i2
    rw [i2]; rfl
end Go.S
end

section
namespace Go.S
open Go
def toC (c : CmdCmdP) : Rectoref17CmdP := ⟨c.verb, c.name, c.n, c.text, c.force, c.todo.map fun x => ⟨x.verb, x.commit, x.text⟩⟩
def popW : List UInt8 := [112, 111, 112]
def applyW : List UInt8 := [97, 112, 112, 108, 121]
def shelveW : List UInt8 := [115, 104, 101, 108, 118, 101]
def switchW : List UInt8 := [115, 119, 105, 116, 99, 104]
def pickW : List UInt8 := [112, 105, 99, 107]
def revertW : List UInt8 := [114, 101, 118, 101, 114, 116]
def rebaseW : List UInt8 := [114, 101, 98, 97, 115, 101]
def resetW : List UInt8 := [114, 101, 115, 101, 116]
def addW : List UInt8 := [97, 100, 100]
def rmW : List UInt8 := [114, 109]
def branchW : List UInt8 := [98, 114, 97, 110, 99, 104]
def deleteW : List UInt8 := [100, 101, 108, 101, 116, 101]
def mergeW : List UInt8 := [109, 101, 114, 103, 101]
def commitW : List UInt8 := [99, 111, 109, 109, 105, 116]
def stashW : List UInt8 := [115, 116, 97, 115, 104]
def numS (c : CmdCmdP) : Int :=
  if c.verb = popW ∨ c.verb = applyW ∨ c.verb = shelveW then (if c.n < 0 then 1 else 0)
  else if c.verb = pickW ∨ c.verb = revertW ∨ c.verb = rebaseW ∨ c.verb = resetW ∨ (c.verb = switchW ∧ c.name = []) then (if c.n < 1 then 1 else 0)
  else 0
theorem cnumber_ok (c : CmdCmdP) : Sh.cmd_number c = some (numS c) := by
  have h2 : ¬ c.n < c.n := by omega
  have e0 : ∀ z : Int, (if c.n < z then some 1 else some 0 : Option Int) = some (if c.n < z then 1 else 0) := fun z => by split <;> rfl
  unfold Sh.cmd_number numS popW applyW shelveW pickW revertW rebaseW resetW switchW
  simp only [jn]
  by_cases a1 : c.verb = [112, 111, 112]
  · simp [a1, e0]
  by_cases a2 : c.verb = [97, 112, 112, 108, 121]
  · simp [a2, e0]
  by_cases a3 : c.verb = [115, 104, 101, 108, 118, 101]
  · simp [a3, e0]
  by_cases a4 : c.verb = [115, 119, 105, 116, 99, 104]
  · by_cases a5 : c.name = [] <;> simp [a4, a5, h2, e0]
  by_cases a6 : c.verb = [112, 105, 99, 107]
  · simp [a6, e0]
  by_cases a7 : c.verb = [114, 101, 118, 101, 114, 116]
  · simp [a7, e0]
  by_cases a8 : c.verb = [114, 101, 98, 97, 115, 101]
  · simp [a8, e0]
  by_cases a9 : c.verb = [114, 101, 115, 101, 116]
  · simp [a9, e0]
  simp [a1, a2, a3, a4, a6, a7, a8, a9, h2]
theorem rnumber17_ok (c : CmdCmdP) (h : I64 c.n) : Sh.rectoref17_number (toC c) = some (numS c) := by
  have h1 : ¬ c.n < -9223372036854775808 := by have := h.1; omega
  have e0 : ∀ z : Int, (if c.n < z then some 1 else some 0 : Option Int) = some (if c.n < z then 1 else 0) := fun z => by split <;> rfl
  unfold Sh.rectoref17_number numS popW applyW shelveW pickW revertW rebaseW resetW switchW
  simp only [jn, toC]
  by_cases a1 : c.verb = [112, 111, 112]
  · simp [a1]; exact e0 _
  by_cases a2 : c.verb = [97, 112, 112, 108, 121]
  · simp [a2]; exact e0 _
  by_cases a3 : c.verb = [115, 104, 101, 108, 118, 101]
  · simp [a3]; exact e0 _
  by_cases a4 : c.verb = [115, 119, 105, 116, 99, 104]
  · by_cases a5 : c.name = []
    · simp [a4, a5]; exact e0 _
    · simp [a4, a5, h1]
  by_cases a6 : c.verb = [112, 105, 99, 107]
  · simp [a6]; exact e0 _
  by_cases a7 : c.verb = [114, 101, 118, 101, 114, 116]
  · simp [a7]; exact e0 _
  by_cases a8 : c.verb = [114, 101, 98, 97, 115, 101]
  · simp [a8]; exact e0 _
  by_cases a9 : c.verb = [114, 101, 115, 101, 116]
  · simp [a9]; exact e0 _
  simp [a1, a2, a3, a4, a6, a7, a8, a9, h1]
end Go.S
end

section
namespace Go.S
open Go
def nlet (z : UInt8) : Bool := (decide (97 ≤ z.toNat) && decide (z.toNat ≤ 122)) || (decide (48 ≤ z.toNat) && decide (z.toNat ≤ 57)) || decide (z.toNat = 45)
def nfirst (s : List UInt8) : Bool := match s with | [] => false | z :: _ => decide (97 ≤ z.toNat) && decide (z.toNat ≤ 122)
def goodS (s : List UInt8) : Bool := decide (s.length ≤ 32) && nfirst s && s.all nlet
theorem rgood17_ok (s : List UInt8) : Sh.rectoref17_Good s = some (goodS s) := by
  apply Ok.eq
  unfold Sh.rectoref17_Good
  refine ok_jnP (fun x => x = !(decide (s.length ≤ 32) && nfirst s)) ?_ ?_
  · intro x hx
    simp only [ok_if, ok_some]
    refine ⟨fun h => ?_, fun h => ?_⟩
    · rw [hx] at h
      unfold goodS
      have : (decide (s.length ≤ 32) && nfirst s) = false := by rwa [Bool.not_eq_true'] at h
      rw [this]; rfl
    · have hf : (decide (s.length ≤ 32) && nfirst s) = true := by rw [hx] at h; simpa using h
      have hl : s.length ≤ 32 := by
        have := (Bool.and_eq_true _ _).mp hf
        exact of_decide_eq_true this.1
      unfold goodS
      rw [hf, Bool.true_and]
      refine ok_iter (I := fun i => 0 ≤ i ∧ i ≤ s.length ∧ (s.take i.toNat).all nlet = true) (μ := fun i => (s.length - i).toNat) ?_ ⟨by omega, by omega, by simp⟩
      rintro i ⟨i0, i1, i2⟩
      simp only [ok_if, ok_up, ok_some]
      refine ⟨fun hi => ?_, fun hi => ?_⟩
      · obtain ⟨z, hz⟩ := at_get (l := s) i0 hi
        refine ok_jnP (fun b => b = !nlet z) ?_ ?_
        · intro b hb
          simp only [ok_if, ok_up, ok_gd, ok_go, ok_some]
          refine ⟨fun q => ?_, fun q => ⟨⟨by omega, by omega⟩, ⟨by omega, by omega, ?_⟩, by omega⟩⟩
          · have hzf : nlet z = false := by rw [hb] at q; simpa using q
            exact (all_false (List.mem_of_getElem? hz) hzf).symm
          · have hzt : nlet z = true := by rw [hb] at q; simpa using q
            rw [take_snoc i0 hz, all_snoc, i2, hzt]; rfl
        · intro K hK
          rw [ok_bd, ok_at]
          refine ⟨i0, z, hz, ?_⟩
          simp only [ok_if, ok_bd, ok_at]
          refine ⟨fun a => ⟨i0, z, hz, fun b => ⟨i0, z, hz, hK _ ?_⟩, fun b => ⟨i0, z, hz, fun d => ⟨i0, z, hz, hK _ ?_⟩, fun d => hK _ ?_⟩⟩, fun a => ⟨i0, z, hz, fun a2 => ⟨i0, z, hz, fun b => ⟨i0, z, hz, hK _ ?_⟩, fun b => ⟨i0, z, hz, fun d => ⟨i0, z, hz, hK _ ?_⟩, fun d => hK _ ?_⟩⟩, fun a2 => hK _ ?_⟩⟩
          all_goals (unfold nlet; rw [Bool.eq_iff_iff]; simp; omega)
      · rw [List.take_of_length_le (by omega)] at i2
        exact i2.symm
  · intro K hK
    cases s with
    | nil => simp only [ok_if]; exact ⟨fun _ => hK _ rfl, fun h => absurd (by simp) h⟩
    | cons z r =>
      simp only [ok_if, ok_bd, ok_at]
      refine ⟨fun h => absurd h (by simp; omega), fun _ => ⟨fun h => hK _ ?_, fun h => ⟨by omega, z, rfl, fun a => hK _ ?_, fun a => ⟨by omega, z, rfl, hK _ ?_⟩⟩⟩⟩
      all_goals (simp only [nfirst]; rw [Bool.eq_iff_iff]; simp at *; omega)
end Go.S
end

section
namespace Go.S
open Go
def az (z : UInt8) : Bool := decide (97 ≤ z.toNat) && decide (z.toNat ≤ 122)
theorem az_nlet {z : UInt8} (h : az z = true) : nlet z = true := by unfold az at h; unfold nlet; rw [h]; rfl
theorem ngood_ok {s : List UInt8} (hs : s.length ≤ 1000000000) : Sh.names_Good s = some (goodS s) := by
  apply Ok.eq
  unfold Sh.names_Good
  simp only [ok_gd, ok_lt]
  refine ⟨by omega, ?_⟩
  refine ok_iter (I := fun i => 0 ≤ i ∧ i ≤ s.length ∧ (s.take i.toNat).all nlet = true ∧ (0 < i → nfirst s = true)) (μ := fun i => (s.length - i).toNat) ?_ ⟨by omega, by omega, by simp, fun h => absurd h (by omega)⟩
  rintro i ⟨i0, i1, i2, i3⟩
  simp only [ok_if, ok_up, ok_some]
  refine ⟨fun hi => ?_, fun hi => ?_⟩
  · obtain ⟨z, hz⟩ := at_get (l := s) i0 hi
    rw [ok_bd, ok_at]
    refine ⟨i0, z, hz, ?_⟩
    refine ok_jnP (fun b => b = !(if i = 0 then az z else nlet z)) ?_ ?_
    · intro b hb
      simp only [ok_if, ok_up, ok_gd, ok_go, ok_some]
      refine ⟨fun q => ?_, fun q => ⟨⟨by omega, by omega⟩, ⟨by omega, by omega, ?_, fun _ => ?_⟩, by omega⟩⟩
      · rw [hb, Bool.not_eq_true'] at q
        unfold goodS
        by_cases h0 : i = 0
        · rw [if_pos h0] at q
          subst h0
          cases s with
          | nil => cases hz
          | cons y r =>
            obtain rfl : y = z := by simpa using hz
            have : nfirst (y :: r) = false := q
            rw [this, Bool.and_false]; rfl
        · rw [if_neg h0] at q
          rw [all_false (List.mem_of_getElem? hz) q, Bool.and_false]
      · have q' : (if i = 0 then az z else nlet z) = true := by rw [hb] at q; simpa using q
        have hzt : nlet z = true := by
          by_cases h0 : i = 0
          · rw [if_pos h0] at q'; exact az_nlet q'
          · rw [if_neg h0] at q'; exact q'
        rw [take_snoc i0 hz, all_snoc, i2, hzt]; rfl
      · have q' : (if i = 0 then az z else nlet z) = true := by rw [hb] at q; simpa using q
        by_cases h0 : i = 0
        · rw [if_pos h0] at q'
          subst h0
          cases s with
          | nil => cases hz
          | cons y r =>
            obtain rfl : y = z := by simpa using hz
            exact q'
        · exact i3 (by omega)
    · intro K hK
      simp only [ok_if]
      refine ⟨fun a => ⟨fun b => hK _ ?_, fun b => ⟨fun d => hK _ ?_, fun d => ⟨fun e => hK _ ?_, fun e => hK _ ?_⟩⟩⟩, fun a => ⟨fun a2 => ⟨fun b => hK _ ?_, fun b => ⟨fun d => hK _ ?_, fun d => ⟨fun e => hK _ ?_, fun e => hK _ ?_⟩⟩⟩, fun a2 => hK _ ?_⟩⟩
      all_goals first
        | (rw [if_pos b]; unfold az; rw [Bool.eq_iff_iff]; simp; omega)
        | (rw [if_neg b]; unfold nlet; rw [Bool.eq_iff_iff]; simp; omega)
        | (split <;> (first | unfold az | unfold nlet) <;> rw [Bool.eq_iff_iff] <;> simp <;> omega)
  · rw [List.take_of_length_le (by omega)] at i2
    unfold goodS
    rw [i2, Bool.and_true]
    refine ⟨fun h => ?_, fun h => ?_⟩
    · rw [i3 (by omega), Bool.and_true]; exact decide_eq_decide.2 (by omega)
    · cases s with
      | nil => rfl
      | cons y r => exact absurd (by simp; omega) h
def nameS (c : CmdCmdP) : Int :=
  if c.verb = addW then (if c.name = [] then 0 else checkP c.name)
  else if c.verb = rmW then checkP c.name
  else if c.verb = branchW ∨ c.verb = deleteW ∨ c.verb = mergeW then (if goodS c.name = true then 0 else 5)
  else if c.verb = switchW then (if c.name = [] ∨ goodS c.name = true then 0 else 5)
  else if c.verb = resetW then (if c.name = [115, 111, 102, 116] ∨ c.name = [109, 105, 120, 101, 100] ∨ c.name = [104, 97, 114, 100] then 0 else 5)
  else 0
theorem e5 (b : Bool) : (if b = false then some 5 else some 0 : Option Int) = some (if b = true then 0 else 5) := by cases b <;> rfl
theorem cname_ok {c : CmdCmdP} (hc : c.name.length ≤ 1000000000) : Sh.cmd_name c = some (nameS c) := by
  unfold Sh.cmd_name nameS addW rmW branchW deleteW mergeW switchW resetW
  simp only [jn, ngood_ok hc, pcheck_ok, Option.bind_some]
  by_cases a1 : c.verb = [97, 100, 100]
  · by_cases b : c.name = [] <;> simp [a1, b]
  by_cases a2 : c.verb = [114, 109]
  · simp [a2]
  by_cases a3 : c.verb = [98, 114, 97, 110, 99, 104]
  · simp [a3, e5]
  by_cases a4 : c.verb = [100, 101, 108, 101, 116, 101]
  · simp [a4, e5]
  by_cases a5 : c.verb = [109, 101, 114, 103, 101]
  · simp [a5, e5]
  by_cases a6 : c.verb = [115, 119, 105, 116, 99, 104]
  · by_cases b : c.name = [] <;> simp [a6, b, e5]
  by_cases a7 : c.verb = [114, 101, 115, 101, 116]
  · by_cases b1 : c.name = [115, 111, 102, 116]
    · simp [a7, b1]
    by_cases b2 : c.name = [109, 105, 120, 101, 100]
    · simp [a7, b2]
    by_cases b3 : c.name = [104, 97, 114, 100] <;> simp [a7, b1, b2, b3]
  simp [a1, a2, a3, a4, a5, a6, a7]
theorem rname17_ok (c : CmdCmdP) : Sh.rectoref17_name (toC c) = some (nameS c) := by
  unfold Sh.rectoref17_name nameS addW rmW branchW deleteW mergeW switchW resetW
  simp only [jn, rgood17_ok, rpcheck_ok, Option.bind_some, toC]
  by_cases a1 : c.verb = [97, 100, 100]
  · by_cases b : c.name = [] <;> simp [a1, b]
  by_cases a2 : c.verb = [114, 109]
  · simp [a2]
  by_cases a3 : c.verb = [98, 114, 97, 110, 99, 104]
  · simp [a3, e5]
  by_cases a4 : c.verb = [100, 101, 108, 101, 116, 101]
  · simp [a4, e5]
  by_cases a5 : c.verb = [109, 101, 114, 103, 101]
  · simp [a5, e5]
  by_cases a6 : c.verb = [115, 119, 105, 116, 99, 104]
  · by_cases b : c.name = [] <;> simp [a6, b, e5]
  by_cases a7 : c.verb = [114, 101, 115, 101, 116]
  · by_cases b1 : c.name = [115, 111, 102, 116]
    · simp [a7, b1]
    by_cases b2 : c.name = [109, 105, 120, 101, 100]
    · simp [a7, b2]
    by_cases b3 : c.name = [104, 97, 114, 100] <;> simp [a7, b1, b2, b3]
  simp [a1, a2, a3, a4, a5, a6, a7]
end Go.S
end
