/- Part of the proofs of: Any three trees merged: each path, what clashes, with its stages; or why not, as the document says. -/
import Derived.Test.YtleokmhhloamaaaGreatDoorMD
set_option linter.unusedVariables false
set_option linter.unusedSimpArgs false
set_option linter.unusedSectionVars false
section
set_option linter.unusedVariables false
namespace Go.Proofs.YtleokmhhloamaaaGreatDoor
set_option maxHeartbeats 4000000
set_option maxRecDepth 100000
open Go.RowKit Go.V
open Go.S hiding Str
theorem r11_Chunks_ct (b_0 : Sv Str) (o_1 : Sv Str) (t_2 : Sv Str) {r : List Rectoref11ChunkP × Rectoref3WrongP} (hS : Sh.r11_Chunks b_0.l o_1.l t_2.l = some r) :
 Ct Tryz.prog 186 [b_0.val, o_1.val, t_2.val] (b_0.ok.and (o_1.ok.and t_2.ok)) (Ow.emp) (X := Sv Rectoref11Chunk × Rectoref3Wrong) (fun x => .tuple #[x.1.val, .agg (Dat.enc x.2).toArray]) (fun x => r = ((x.1.l.map Rectoref11Chunk.pl), x.2.pl)) (fun x => (x.1.ok.and x.2.m)) (fun x => Ow.emp) := by
 refine Zo Tryz.func186 Tryz.ntmps186 fun c => ?_
 unfold Sh.r11_Chunks at hS
 refine Zq (Zr ?_)
 refine Za ?_
 refine VL.alloc (cs := [.slice none 0 0, i64 0]) (by kernel_rfl) (by decide) fun b7_1 => ?_
 refine Zl ?_
 refine Zq (Zr ?_)
 refine Zy ?_
 obtain ⟨y26_2, ey26_2, hS⟩ := bd_s hS
 refine VL.callO (r11_Lines_ct b_0 o_1 ey26_2) rfl (by decide) ?_
 rintro ⟨q26_2_0, q26_2_1⟩ rfl
 try dsimp only
 refine Zm ?_
 refine Zu (q_extract rfl rfl) ?_
 refine Zu (q_extract rfl rfl) ?_
 refine VL.alloc (cs := [.slice none 0 0, i64 0]) (by kernel_rfl) (by decide) fun b9_3 => ?_
 refine Za ?_
 refine Zv (vc := [q26_2_1.parts.val, i64 q26_2_1.err]) (cs' := [q26_2_1.parts.val, i64 q26_2_1.err]) rfl gsz54 ?_
 refine Zl ?_
 refine VC.keep [0, 1, 2, 7, 9, 8] rfl ?_
 refine Zq (Zq (Zr ?_))
 refine Zu (q_field gfa54_1 rfl) ?_
 refine Zu (q_fe gone3 rfl rfl) ?_
 refine Zu (q_neq rfl rfl) ?_
 refine Zl ?_
 refine Zcn hS (fun h31 hS => ?_) (fun h31 hS => ?_)
 ·
  refine Zq ?_
  refine VC.draw [(0, true), (1, true), (2, false)] mixed (by kernel_rfl) (by kernel_rfl) (by kernel_rfl) ?_
  refine Zw rfl (q_fes gagg54 rfl rfl) ?_
  refine Zw rfl (q_assign rfl) ?_
  refine VD.one rfl ?_
  refine Zv (vc := [q26_2_1.parts.val, i64 q26_2_1.err]) (cs' := [q26_2_1.parts.val, i64 q26_2_1.err]) rfl gsz54 ?_
  refine VL.back (D' := []) (by kernel_rfl) (Pend.nil) ?_
  refine VD.to (fun _ _ h => h) ?_
  refine VC.keep [7, 6] rfl ?_
  cases hS
  exact VC.ret (finG (vs := [.slice none 0 0, .agg #[q26_2_1.parts.val, i64 q26_2_1.err]]) (.inr rfl) rfl (RVs.tmp rfl (RVs.cell gagg54 rfl rfl Rd.blk (RVs.nil))) (⟨none, 0, []⟩, ⟨q26_2_1.parts, q26_2_1.err⟩) rfl rfl (by (try dsimp only); exact InM.out) (fun _ _ => trivial))
 refine Zk ?_
 refine Zq (Zr ?_)
 refine Zy ?_
 obtain ⟨y36_4, ey36_4, hS⟩ := bd_s hS
 refine VL.callO (r11_Lines_ct b_0 t_2 ey36_4) rfl (by decide) ?_
 rintro ⟨q36_4_0, q36_4_1⟩ rfl
 try dsimp only
 refine Zm ?_
 refine Zu (q_extract rfl rfl) ?_
 refine Zu (q_extract rfl rfl) ?_
 refine VL.alloc (cs := [.slice none 0 0, i64 0]) (by kernel_rfl) (by decide) fun b11_5 => ?_
 refine Za ?_
 refine Zv (vc := [q36_4_1.parts.val, i64 q36_4_1.err]) (cs' := [q36_4_1.parts.val, i64 q36_4_1.err]) rfl gsz54 ?_
 refine Zl ?_
 refine VC.keep [0, 1, 2, 7, 9, 8, 11, 10] rfl ?_
 refine Zq (Zq (Zr ?_))
 refine Zu (q_field gfa54_1 rfl) ?_
 refine Zu (q_fe gone3 rfl rfl) ?_
 refine Zu (q_neq rfl rfl) ?_
 refine Zl ?_
 refine Zcn hS (fun h41 hS => ?_) (fun h41 hS => ?_)
 ·
  refine Zq ?_
  refine VC.draw [(0, true), (1, true), (2, false)] mixed (by kernel_rfl) (by kernel_rfl) (by kernel_rfl) ?_
  refine Zw rfl (q_fes gagg54 rfl rfl) ?_
  refine Zw rfl (q_assign rfl) ?_
  refine VD.one rfl ?_
  refine Zv (vc := [q36_4_1.parts.val, i64 q36_4_1.err]) (cs' := [q36_4_1.parts.val, i64 q36_4_1.err]) rfl gsz54 ?_
  refine VL.back (D' := []) (by kernel_rfl) (Pend.nil) ?_
  refine VD.to (fun _ _ h => h) ?_
  refine VC.keep [7, 6] rfl ?_
  cases hS
  exact VC.ret (finG (vs := [.slice none 0 0, .agg #[q36_4_1.parts.val, i64 q36_4_1.err]]) (.inr rfl) rfl (RVs.tmp rfl (RVs.cell gagg54 rfl rfl Rd.blk (RVs.nil))) (⟨none, 0, []⟩, ⟨q36_4_1.parts, q36_4_1.err⟩) rfl rfl (by (try dsimp only); exact InM.out) (fun _ _ => trivial))
 refine Zk ?_
 refine Zq (Zr ?_)
 refine Zy ?_
 refine Zu (q_ln (s := b_0) Tryz.underlying82 rfl) ?_
 obtain ⟨y46_6, ey46_6, hS⟩ := bd_s hS
 refine VL.callOR (r11_kept_ct q26_2_0 (b_0.l.length : Int) ey46_6) rfl (by decide) ?_
 rintro q46_6_0 rfl
 try dsimp only
 refine Zy ?_
 refine VC.keep [0, 1, 2, 7, 9, 10, 12] rfl ?_
 refine Zq (Zr ?_)
 refine Zy ?_
 refine Zu (q_ln (s := b_0) Tryz.underlying82 rfl) ?_
 obtain ⟨y50_7, ey50_7, hS⟩ := bd_s hS
 refine VL.callOR (r11_kept_ct q36_4_0 (b_0.l.length : Int) ey50_7) rfl (by decide) ?_
 rintro q50_7_0 rfl
 try dsimp only
 refine Zy ?_
 refine Zq (Zr ?_)
 refine Zy ?_
 refine Zq (Zr ?_)
 refine Zy ?_
 refine Zq (Zr ?_)
 refine Zy ?_
 refine Zq (Zr ?_)
 refine Zy ?_
 refine Zb ?_
 refine VC.nilO (⟨none, 0, []⟩ : Sv Rectoref11Chunk) 268 ⟨rfl, rfl⟩ ?_
 refine VC.maNil (s := (⟨none, 0, []⟩ : Sv Rectoref11Chunk)) rfl ?_
 refine VC.iter (S := Sv Rectoref11Chunk × Int × Int × Int) (fun sg => ((sg.1.l.map Rectoref11Chunk.pl), sg.2.1, sg.2.2.1, sg.2.2.2)) (fun sg => [(0, b_0.val), (1, o_1.val), (2, t_2.val), (7, ptr b7_1 0), (9, ptr b9_3 0), (12, q46_6_0.val), (13, q50_7_0.val), (14, sg.1.val), (15, i64 sg.2.1), (16, i64 sg.2.2.1), (17, i64 sg.2.2.2)]) (fun sg => (MAl sg.1.l)) (fun sg => Ow.star (Blk b11_5 [q36_4_1.parts.val, i64 q36_4_1.err] 54) (Ow.star (Blk b9_3 [q26_2_1.parts.val, i64 q26_2_1.err] 54) (Ow.star (Blk b7_1 [.slice none 0 0, i64 0] 54) (Ow.star (Sv.own q50_7_0 3) (Ow.star (Sv.own q46_6_0 3) (Ow.star (Sv.own sg.1 268) (Ow.emp))))))) (⟨none, 0, []⟩, 0, 0, 0) [0, 1, 2, 7, 9, 12, 13, 14, 15, 16, 17] hS rfl ?_
 clear hS
 rintro ⟨out14_8, i15_9, j16_10, k17_11⟩ m1 y1 hS hK1
 refine Zb (Zq (Zr ?_))
 refine Zy ?_
 refine VC.cutJ (S := Int) (fun (n18_12 : Int) => n18_12) (fun (n18_12 : Int) => [(0, b_0.val), (1, o_1.val), (2, t_2.val), (7, ptr b7_1 0), (9, ptr b9_3 0), (12, q46_6_0.val), (13, q50_7_0.val), (14, out14_8.val), (15, i64 i15_9), (16, i64 j16_10), (17, i64 k17_11), (18, i64 n18_12)]) (fun (n18_12 : Int) => Mo.tt) (fun (n18_12 : Int) => Ow.star (Blk b11_5 [q36_4_1.parts.val, i64 q36_4_1.err] 54) (Ow.star (Blk b9_3 [q26_2_1.parts.val, i64 q26_2_1.err] 54) (Ow.star (Blk b7_1 [.slice none 0 0, i64 0] 54) (Ow.star (Sv.own q50_7_0 3) (Ow.star (Sv.own q46_6_0 3) (Ow.star (Sv.own out14_8 268) (Ow.emp))))))) hS ?_ ?_
 ·
  clear hS
  intro k13 hS
  refine Zb ?_
  refine VC.iter (S := Int) (fun (n18_14 : Int) => n18_14) (fun (n18_14 : Int) => [(0, b_0.val), (1, o_1.val), (2, t_2.val), (7, ptr b7_1 0), (9, ptr b9_3 0), (12, q46_6_0.val), (13, q50_7_0.val), (14, out14_8.val), (15, i64 i15_9), (16, i64 j16_10), (17, i64 k17_11), (18, i64 n18_14)]) (fun (n18_14 : Int) => Mo.tt) (fun (n18_14 : Int) => Ow.star (Blk b11_5 [q36_4_1.parts.val, i64 q36_4_1.err] 54) (Ow.star (Blk b9_3 [q26_2_1.parts.val, i64 q26_2_1.err] 54) (Ow.star (Blk b7_1 [.slice none 0 0, i64 0] 54) (Ow.star (Sv.own q50_7_0 3) (Ow.star (Sv.own q46_6_0 3) (Ow.star (Sv.own out14_8 268) (Ow.emp))))))) i15_9 [0, 1, 2, 7, 9, 12, 13, 14, 15, 16, 17, 18] hS rfl ?_
  clear hS
  rintro n18_14 m2 y2 hS hK2
  refine VC.cutJ (S := Unit) (fun (_ : Unit) => ()) (fun (_ : Unit) => [(0, b_0.val), (1, o_1.val), (2, t_2.val), (7, ptr b7_1 0), (9, ptr b9_3 0), (12, q46_6_0.val), (13, q50_7_0.val), (14, out14_8.val), (15, i64 i15_9), (16, i64 j16_10), (17, i64 k17_11), (18, i64 n18_14)]) (fun (_ : Unit) => Mo.tt) (fun (_ : Unit) => Ow.star (Blk b11_5 [q36_4_1.parts.val, i64 q36_4_1.err] 54) (Ow.star (Blk b9_3 [q26_2_1.parts.val, i64 q26_2_1.err] 54) (Ow.star (Blk b7_1 [.slice none 0 0, i64 0] 54) (Ow.star (Sv.own q50_7_0 3) (Ow.star (Sv.own q46_6_0 3) (Ow.star (Sv.own out14_8 268) (Ow.emp))))))) hS ?_ ?_
  ·
   clear hS
   intro k15 hS
   refine Zq (Zr ?_)
   refine Zy ?_
   refine Zu (q_ln (s := b_0) Tryz.underlying82 rfl) ?_
   refine Zu (q_lss rfl rfl) ?_
   refine Zm ?_
   refine Zsp 56 hS (fun h56 hS => ?_) (fun h56 hS => ?_)
   ·
    refine Zy ?_
    obtain ⟨z59_16, nz59_16, hz59_16, hS⟩ := at_s hS
    refine Zh (q_ixo (s := q46_6_0) Tryz.underlying26 gsz3 rfl rfl nz59_16 (lt_of_get nz59_16 hz59_16)) ?_
    refine Zh (q_elo (s := q46_6_0) 3 gone3 rfl hz59_16 rfl) ?_
    refine Zh (q_lss rfl rfl) ?_
    refine Zg ?_
    refine Zsp 62 hS (fun h62 hS => ?_) (fun h62 hS => ?_)
    ·
     refine Zy ?_
     refine Zh (q_pick_t rfl rfl) ?_
     refine Zy ?_
     refine VC.keep [0, 1, 2, 7, 9, 12, 13, 14, 15, 16, 17, 18, 69] rfl ?_
     refine VC.cond_t rfl ?_
     refine VC.skip_mt () [0, 1, 2, 7, 9, 12, 13, 14, 15, 16, 17, 18] (fun _ _ h => h) hS rfl
    refine Zy ?_
    obtain ⟨z65_17, nz65_17, hz65_17, hS⟩ := at_s hS
    refine Zh (q_ixo (s := q50_7_0) Tryz.underlying26 gsz3 rfl rfl nz65_17 (lt_of_get nz65_17 hz65_17)) ?_
    refine Zh (q_elo (s := q50_7_0) 3 gone3 rfl hz65_17 rfl) ?_
    refine Zh (q_lss rfl rfl) ?_
    refine Zh (q_pick_f rfl rfl) ?_
    refine Zy ?_
    refine VC.keep [0, 1, 2, 7, 9, 12, 13, 14, 15, 16, 17, 18, 69] rfl ?_
    refine Zc hS (fun h69 hS => ?_) (fun h69 hS => ?_)
    ·
     refine VC.skip_mt () [0, 1, 2, 7, 9, 12, 13, 14, 15, 16, 17, 18] (fun _ _ h => h) hS rfl
    replace hS := up2 hS hK2
    refine VC.exit_mt n18_14 [0, 1, 2, 7, 9, 12, 13, 14, 15, 16, 17, 18] (fun _ _ h => h) hS rfl
   refine Zy ?_
   refine VL.gu rfl rfl (by decide) ?_
   refine VL.gu rfl rfl (by decide) ?_
   refine VL.gu rfl rfl (by decide) ?_
   refine VL.gu rfl rfl (by decide) ?_
   refine VL.gu rfl rfl (by decide) ?_
   refine Zy ?_
   refine VC.keep [0, 1, 2, 7, 9, 12, 13, 14, 15, 16, 17, 18, 69] rfl ?_
   refine VC.cond_f rfl ?_
   replace hS := up2 hS hK2
   refine VC.exit_mt n18_14 [0, 1, 2, 7, 9, 12, 13, 14, 15, 16, 17, 18] (fun _ _ h => h) hS rfl
  clear hS
  rintro _ hS
  refine Zb (Zr ?_)
  refine Zm ?_
  obtain ⟨b71, hS⟩ := gd_s hS
  refine Zu (q_add rfl rfl b71) ?_
  refine Za ?_
  refine VL.rnd (n18_14 + 1) [0, 1, 2, 7, 9, 12, 13, 14, 15, 16, 17, 18] (fun _ _ h => h) (go2 hS hK2) rfl
 clear hS
 rintro n18_12 hS
 refine Zq (Zr ?_)
 refine Zm ?_
 refine Zu (q_ln (s := o_1) Tryz.underlying82 rfl) ?_
 refine Zy ?_
 refine Zq (Zr ?_)
 refine Zm ?_
 refine Zu (q_ln (s := t_2) Tryz.underlying82 rfl) ?_
 refine Zy ?_
 refine VC.cutJ (S := Int × Int) (fun sg => (sg.1, sg.2)) (fun sg => [(0, b_0.val), (1, o_1.val), (2, t_2.val), (7, ptr b7_1 0), (9, ptr b9_3 0), (12, q46_6_0.val), (13, q50_7_0.val), (14, out14_8.val), (15, i64 i15_9), (16, i64 j16_10), (17, i64 k17_11), (18, i64 n18_12), (19, i64 sg.1), (20, i64 sg.2)]) (fun sg => Mo.tt) (fun sg => Ow.star (Blk b11_5 [q36_4_1.parts.val, i64 q36_4_1.err] 54) (Ow.star (Blk b9_3 [q26_2_1.parts.val, i64 q26_2_1.err] 54) (Ow.star (Blk b7_1 [.slice none 0 0, i64 0] 54) (Ow.star (Sv.own q50_7_0 3) (Ow.star (Sv.own q46_6_0 3) (Ow.star (Sv.own out14_8 268) (Ow.emp))))))) hS ?_ ?_
 ·
  clear hS
  intro k20 hS
  refine Zq (Zr ?_)
  refine Zy ?_
  refine Zu (q_ln (s := b_0) Tryz.underlying82 rfl) ?_
  refine Zu (q_lss rfl rfl) ?_
  refine Zl ?_
  refine VC.keep [0, 1, 2, 7, 9, 12, 13, 14, 15, 16, 17, 18, 19, 20, 79] rfl ?_
  refine Zc hS (fun h79 hS => ?_) (fun h79 hS => ?_)
  ·
   refine Zq (Zr ?_)
   refine Zy ?_
   obtain ⟨z82_21, nz82_21, hz82_21, hS⟩ := at_s hS
   refine Zu (q_ixo (s := q46_6_0) Tryz.underlying26 gsz3 rfl rfl nz82_21 (lt_of_get nz82_21 hz82_21)) ?_
   refine Zu (q_elo (s := q46_6_0) 3 gone3 rfl hz82_21 rfl) ?_
   refine Zy ?_
   refine Zr ?_
   refine Zy ?_
   obtain ⟨z86_22, nz86_22, hz86_22, hS⟩ := at_s hS
   refine Zu (q_ixo (s := q50_7_0) Tryz.underlying26 gsz3 rfl rfl nz86_22 (lt_of_get nz86_22 hz86_22)) ?_
   refine Zu (q_elo (s := q50_7_0) 3 gone3 rfl hz86_22 rfl) ?_
   refine Za ?_
   refine VL.mt (z82_21, z86_22) [0, 1, 2, 7, 9, 12, 13, 14, 15, 16, 17, 18, 19, 20] (fun _ _ h => h) hS rfl
  refine VC.skip_mt ((o_1.l.length : Int), (t_2.l.length : Int)) [0, 1, 2, 7, 9, 12, 13, 14, 15, 16, 17, 18, 19, 20] (fun _ _ h => h) hS rfl
 clear hS
 rintro ⟨jo19_18, kt20_19⟩ hS
 refine VC.cutJ (S := Sv Rectoref11Chunk) (fun (out14_23 : Sv Rectoref11Chunk) => (out14_23.l.map Rectoref11Chunk.pl)) (fun (out14_23 : Sv Rectoref11Chunk) => [(0, b_0.val), (1, o_1.val), (2, t_2.val), (7, ptr b7_1 0), (9, ptr b9_3 0), (12, q46_6_0.val), (13, q50_7_0.val), (14, out14_23.val), (18, i64 n18_12), (19, i64 jo19_18), (20, i64 kt20_19)]) (fun (out14_23 : Sv Rectoref11Chunk) => (MAl out14_23.l)) (fun (out14_23 : Sv Rectoref11Chunk) => Ow.star (Blk b11_5 [q36_4_1.parts.val, i64 q36_4_1.err] 54) (Ow.star (Blk b9_3 [q26_2_1.parts.val, i64 q26_2_1.err] 54) (Ow.star (Blk b7_1 [.slice none 0 0, i64 0] 54) (Ow.star (Sv.own q50_7_0 3) (Ow.star (Sv.own q46_6_0 3) (Ow.star (Sv.own out14_23 268) (Ow.emp))))))) hS ?_ ?_
 ·
  clear hS
  intro k24 hS
  refine VC.cutJ (S := Bool) (fun (x100_25 : Bool) => x100_25) (fun (x100_25 : Bool) => [(0, b_0.val), (1, o_1.val), (2, t_2.val), (7, ptr b7_1 0), (9, ptr b9_3 0), (12, q46_6_0.val), (13, q50_7_0.val), (14, out14_8.val), (15, i64 i15_9), (16, i64 j16_10), (17, i64 k17_11), (18, i64 n18_12), (19, i64 jo19_18), (20, i64 kt20_19), (100, .bool x100_25)]) (fun (x100_25 : Bool) => Mo.tt) (fun (x100_25 : Bool) => Ow.star (Blk b11_5 [q36_4_1.parts.val, i64 q36_4_1.err] 54) (Ow.star (Blk b9_3 [q26_2_1.parts.val, i64 q26_2_1.err] 54) (Ow.star (Blk b7_1 [.slice none 0 0, i64 0] 54) (Ow.star (Sv.own q50_7_0 3) (Ow.star (Sv.own q46_6_0 3) (Ow.star (Sv.own out14_8 268) (Ow.emp))))))) hS ?_ ?_
  ·
   clear hS
   intro k26 hS
   refine Zr ?_
   refine Zy ?_
   refine Zu (q_gtr rfl rfl) ?_
   refine Zm ?_
   refine Zsp 91 hS (fun h91 hS => ?_) (fun h91 hS => ?_)
   ·
    refine Zy ?_
    refine VL.mt true [0, 1, 2, 7, 9, 12, 13, 14, 15, 16, 17, 18, 19, 20, 100] (fun _ _ h => h) hS rfl
   refine Zy ?_
   refine Zh (q_gtr rfl rfl) ?_
   refine Zy ?_
   refine Zsp 96 hS (fun h96 hS => ?_) (fun h96 hS => ?_)
   ·
    refine Zy ?_
    refine VL.mt true [0, 1, 2, 7, 9, 12, 13, 14, 15, 16, 17, 18, 19, 20, 100] (fun _ _ h => h) hS rfl
   refine Zy ?_
   refine Zh (q_gtr rfl rfl) ?_
   refine Zf ?_
   refine VL.mt (decide (k17_11 < kt20_19)) [0, 1, 2, 7, 9, 12, 13, 14, 15, 16, 17, 18, 19, 20, 100] (fun _ _ h => h) hS rfl
  clear hS
  rintro x100_25 hS
  refine Zcb hS (fun h100 hS => ?_) (fun h100 hS => ?_)
  ·
   refine VC.draw [(0, true), (1, true), (2, true), (3, true), (4, true), (5, true), (6, true), (7, true), (8, true), (9, true), (10, true), (11, true), (12, true), (13, false), (14, false), (15, false), (16, true)] mixed (by kernel_rfl) (by kernel_rfl) (by kernel_rfl) ?_
   refine Zw rfl (q_move rfl) ?_
   refine Zw rfl (q_move rfl) ?_
   refine Zw rfl (q_move rfl) ?_
   refine Zw rfl (q_move rfl) ?_
   obtain ⟨b105, hS⟩ := gd_s hS
   refine VD.smidK rfl Tryz.underlying82 gsz9 rfl rfl rfl b105.1 b105.2.1 (b105.2.2) (by decide) fun s105_27 hs105_27 Qs105_27 => ?_
   replace hS := lt_to hs105_27 hS
   refine Zw rfl (q_move rfl) ?_
   refine Zw rfl (q_move rfl) ?_
   refine Zw rfl (q_move rfl) ?_
   obtain ⟨b109, hS⟩ := gd_s hS
   refine VD.smidK rfl Tryz.underlying82 gsz9 rfl rfl rfl b109.1 b109.2.1 (b109.2.2) (by decide) fun s109_29 hs109_29 Qs109_29 => ?_
   replace hS := lt_to hs109_29 hS
   refine Zw rfl (q_move rfl) ?_
   refine Zw rfl (q_move rfl) ?_
   refine Zw rfl (q_move rfl) ?_
   obtain ⟨b113, hS⟩ := gd_s hS
   refine VD.smidK rfl Tryz.underlying82 gsz9 rfl rfl rfl b113.1 b113.2.1 (b113.2.2) (by decide) fun s113_31 hs113_31 Qs113_31 => ?_
   replace hS := lt_to hs113_31 hS
   refine VD.one rfl ?_
   obtain ⟨y114_33, ey114_33, hS⟩ := bd_s hS
   refine VL.callF (r11_between_ct s105_27 s109_29 s113_31 ey114_33) rfl (by decide) ?_
   rintro q114_33_0 rfl
   try dsimp only
   refine VL.back (D' := []) (by kernel_rfl) (Pend.nil) ?_
   refine VD.one rfl ?_
   refine VL.lit (α := Rectoref11Chunk) (xs := [.tmp 114]) (vs := [.agg #[q114_33_0.base.val, q114_33_0.ours.val, q114_33_0.theirs.val, .bool q114_33_0.clash, q114_33_0.out.val]]) [⟨q114_33_0.base, q114_33_0.ours, q114_33_0.theirs, q114_33_0.clash, q114_33_0.out⟩] Tryz.underlying265 glit268 (by decide) rfl rfl rfl rfl (by decide) (fun h m => List.forall_mem_cons.2 ⟨InM.out (X := (q114_33_0.base.ok.and (q114_33_0.ours.ok.and (q114_33_0.theirs.ok.and q114_33_0.out.ok)))) h m, fun _ h => by cases h⟩) (by decide) (fun s115_34 hs115_34 => ?_) (by decide)
   replace hS := lt_to (congrArg (List.map Rectoref11Chunk.pl) hs115_34) hS
   refine VL.back (D' := []) (by kernel_rfl) (Pend.nil) ?_
   refine VD.one rfl ?_
   obtain ⟨b116, hS⟩ := gd_s hS
   refine VL.app (s := out14_8) (r := s115_34) Tryz.underlying265 gapp268 (by decide) rfl Fo.out (ap1 (apm b116)) (ap2 (apm b116) (by decide)) (by decide) (fun s116_36 hs116_36 => ?_)
   replace hS := lt_to ((congrArg (List.map Rectoref11Chunk.pl) hs116_36).trans List.map_append) hS
   refine VL.maApp hs116_36 ?_
   refine VL.back (D' := []) (by kernel_rfl) (Pend.nil) ?_
   refine Zw rfl (q_assign rfl) ?_
   refine VD.mt s116_36 [0, 1, 2, 7, 9, 12, 13, 14, 18, 19, 20] (fun _ _ h => h) hS rfl
  refine VC.skip_mt out14_8 [0, 1, 2, 7, 9, 12, 13, 14, 18, 19, 20] (fun _ _ h => h) hS rfl
 clear hS
 rintro out14_23 hS
 refine Zq (Zq (Zr ?_))
 refine Zy ?_
 refine Zu (q_ln (s := b_0) Tryz.underlying82 rfl) ?_
 refine Zu (q_eql rfl rfl) ?_
 refine Zl ?_
 refine Zc hS (fun h120 hS => ?_) (fun h120 hS => ?_)
 ·
  refine Zq ?_
  refine VC.draw [(0, true), (1, true), (2, true), (3, false)] mixed (by kernel_rfl) (by kernel_rfl) (by kernel_rfl) ?_
  refine Zw rfl (q_move rfl) ?_
  refine Zw rfl (q_fes gagg54 rfl rfl) ?_
  refine Zw rfl (q_assign rfl) ?_
  refine VD.one rfl ?_
  refine Zv (vc := [q26_2_1.parts.val, i64 q26_2_1.err]) (cs' := [q26_2_1.parts.val, i64 q26_2_1.err]) rfl gsz54 ?_
  refine VL.back (D' := []) (by kernel_rfl) (Pend.nil) ?_
  refine VD.to (fun _ _ h => h) ?_
  refine VC.keep [7, 6] rfl ?_
  replace hS := up2 hS hK1
  refine VC.shut out14_23 268 (fun h m => InM.out (X := MAl out14_23.l) h m) ?_
  cases hS
  exact VC.ret (finG (vs := [out14_23.val, .agg #[q26_2_1.parts.val, i64 q26_2_1.err]]) (.inr rfl) rfl (RVs.tmp rfl (RVs.cell gagg54 rfl rfl Rd.blk (RVs.nil))) (out14_23, ⟨q26_2_1.parts, q26_2_1.err⟩) rfl rfl (by (try dsimp only); exact InM.out) (fun _ _ => trivial))
 refine Zk ?_
 refine Zq (Zr ?_)
 refine Zy ?_
 refine VC.cutJ (S := Int) (fun (m21_38 : Int) => m21_38) (fun (m21_38 : Int) => [(0, b_0.val), (1, o_1.val), (2, t_2.val), (7, ptr b7_1 0), (9, ptr b9_3 0), (12, q46_6_0.val), (13, q50_7_0.val), (14, out14_23.val), (18, i64 n18_12), (19, i64 jo19_18), (20, i64 kt20_19), (21, i64 m21_38)]) (fun (m21_38 : Int) => Mo.tt) (fun (m21_38 : Int) => Ow.star (Blk b11_5 [q36_4_1.parts.val, i64 q36_4_1.err] 54) (Ow.star (Blk b9_3 [q26_2_1.parts.val, i64 q26_2_1.err] 54) (Ow.star (Blk b7_1 [.slice none 0 0, i64 0] 54) (Ow.star (Sv.own q50_7_0 3) (Ow.star (Sv.own q46_6_0 3) (Ow.star (Sv.own out14_23 268) (Ow.emp))))))) hS ?_ ?_
 ·
  clear hS
  intro k39 hS
  refine Zb ?_
  refine VC.iter (S := Int) (fun (m21_40 : Int) => m21_40) (fun (m21_40 : Int) => [(0, b_0.val), (1, o_1.val), (2, t_2.val), (7, ptr b7_1 0), (9, ptr b9_3 0), (12, q46_6_0.val), (13, q50_7_0.val), (14, out14_23.val), (18, i64 n18_12), (19, i64 jo19_18), (20, i64 kt20_19), (21, i64 m21_40)]) (fun (m21_40 : Int) => Mo.tt) (fun (m21_40 : Int) => Ow.star (Blk b11_5 [q36_4_1.parts.val, i64 q36_4_1.err] 54) (Ow.star (Blk b9_3 [q26_2_1.parts.val, i64 q26_2_1.err] 54) (Ow.star (Blk b7_1 [.slice none 0 0, i64 0] 54) (Ow.star (Sv.own q50_7_0 3) (Ow.star (Sv.own q46_6_0 3) (Ow.star (Sv.own out14_23 268) (Ow.emp))))))) n18_12 [0, 1, 2, 7, 9, 12, 13, 14, 18, 19, 20, 21] hS rfl ?_
  clear hS
  rintro m21_40 m2 y2 hS hK2
  refine Zq (Zq (Zr ?_))
  refine Zy ?_
  refine Zu (q_ln (s := b_0) Tryz.underlying82 rfl) ?_
  refine Zu (q_lss rfl rfl) ?_
  refine Zm ?_
  refine Zsp 128 hS (fun h128 hS => ?_) (fun h128 hS => ?_)
  ·
   refine Zy ?_
   obtain ⟨z131_41, nz131_41, hz131_41, hS⟩ := at_s hS
   refine Zh (q_ixo (s := q46_6_0) Tryz.underlying26 gsz3 rfl rfl nz131_41 (lt_of_get nz131_41 hz131_41)) ?_
   refine Zh (q_elo (s := q46_6_0) 3 gone3 rfl hz131_41 rfl) ?_
   refine Zh (q_geq rfl rfl) ?_
   refine Zy ?_
   refine Zsp 135 hS (fun h135 hS => ?_) (fun h135 hS => ?_)
   ·
    refine Zy ?_
    obtain ⟨z138_42, nz138_42, hz138_42, hS⟩ := at_s hS
    refine Zh (q_ixo (s := q50_7_0) Tryz.underlying26 gsz3 rfl rfl nz138_42 (lt_of_get nz138_42 hz138_42)) ?_
    refine Zh (q_elo (s := q50_7_0) 3 gone3 rfl hz138_42 rfl) ?_
    refine Zh (q_geq rfl rfl) ?_
    refine Zy ?_
    refine Zsp 142 hS (fun h142 hS => ?_) (fun h142 hS => ?_)
    ·
     refine Zy ?_
     obtain ⟨z145_43, nz145_43, hz145_43, hS⟩ := at_s hS
     refine Zh (q_ixo (s := q46_6_0) Tryz.underlying26 gsz3 rfl rfl nz145_43 (lt_of_get nz145_43 hz145_43)) ?_
     refine Zh (q_elo (s := q46_6_0) 3 gone3 rfl hz145_43 rfl) ?_
     refine Zg ?_
     obtain ⟨b148, hS⟩ := gd_s hS
     refine Zh (q_sub rfl rfl b148) ?_
     refine Zy ?_
     obtain ⟨b151, hS⟩ := gd_s hS
     refine Zh (q_sub rfl rfl b151) ?_
     refine Zh (q_eql rfl rfl) ?_
     refine Zy ?_
     refine Zsp 154 hS (fun h154 hS => ?_) (fun h154 hS => ?_)
     ·
      refine Zy ?_
      obtain ⟨z157_44, nz157_44, hz157_44, hS⟩ := at_s hS
      refine Zh (q_ixo (s := q50_7_0) Tryz.underlying26 gsz3 rfl rfl nz157_44 (lt_of_get nz157_44 hz157_44)) ?_
      refine Zh (q_elo (s := q50_7_0) 3 gone3 rfl hz157_44 rfl) ?_
      refine Zg ?_
      obtain ⟨b160, hS⟩ := gd_s hS
      refine Zh (q_sub rfl rfl b160) ?_
      refine Zy ?_
      obtain ⟨b163, hS⟩ := gd_s hS
      refine Zh (q_sub rfl rfl b163) ?_
      refine Zh (q_eql rfl rfl) ?_
      refine Zy ?_
      refine VC.keep [0, 1, 2, 7, 9, 12, 13, 14, 18, 19, 20, 21, 165] rfl ?_
      refine Zc hS (fun h165 hS => ?_) (fun h165 hS => ?_)
      ·
       refine Zk ?_
       refine Zb (Zr ?_)
       refine Zm ?_
       obtain ⟨b167, hS⟩ := gd_s hS
       refine Zu (q_add rfl rfl b167) ?_
       refine Za ?_
       refine VL.rnd (m21_40 + 1) [0, 1, 2, 7, 9, 12, 13, 14, 18, 19, 20, 21] (fun _ _ h => h) (go2 hS hK2) rfl
      replace hS := up2 hS hK2
      refine VC.exit_mt m21_40 [0, 1, 2, 7, 9, 12, 13, 14, 18, 19, 20, 21] (fun _ _ h => h) hS rfl
     refine Zy ?_
     refine VC.keep [0, 1, 2, 7, 9, 12, 13, 14, 18, 19, 20, 21, 165] rfl ?_
     refine VC.cond_f rfl ?_
     replace hS := up2 hS hK2
     refine VC.exit_mt m21_40 [0, 1, 2, 7, 9, 12, 13, 14, 18, 19, 20, 21] (fun _ _ h => h) hS rfl
    refine Zy ?_
    refine VC.keep [0, 1, 2, 7, 9, 12, 13, 14, 18, 19, 20, 21, 165] rfl ?_
    refine VC.cond_f rfl ?_
    replace hS := up2 hS hK2
    refine VC.exit_mt m21_40 [0, 1, 2, 7, 9, 12, 13, 14, 18, 19, 20, 21] (fun _ _ h => h) hS rfl
   refine Zy ?_
   refine VC.keep [0, 1, 2, 7, 9, 12, 13, 14, 18, 19, 20, 21, 165] rfl ?_
   refine VC.cond_f rfl ?_
   replace hS := up2 hS hK2
   refine VC.exit_mt m21_40 [0, 1, 2, 7, 9, 12, 13, 14, 18, 19, 20, 21] (fun _ _ h => h) hS rfl
  refine Zy ?_
  refine VC.keep [0, 1, 2, 7, 9, 12, 13, 14, 18, 19, 20, 21, 165] rfl ?_
  refine VC.cond_f rfl ?_
  replace hS := up2 hS hK2
  refine VC.exit_mt m21_40 [0, 1, 2, 7, 9, 12, 13, 14, 18, 19, 20, 21] (fun _ _ h => h) hS rfl
 clear hS
 rintro m21_38 hS
 refine Zq (Zr ?_)
 refine Zy ?_
 obtain ⟨b171, hS⟩ := gd_s hS
 refine VL.smid Tryz.underlying82 gsz9 rfl rfl rfl b171.1 b171.2.1 (b171.2.2) (by decide) fun s171_45 hs171_45 => ?_
 replace hS := lt_to hs171_45 hS
 refine Zy ?_
 refine Zq (Zr ?_)
 refine Zy ?_
 refine Zu (q_build (vs := [(0, s171_45.val), (1, s171_45.val), (2, s171_45.val), (4, s171_45.val)]) (cs := #[s171_45.val, s171_45.val, s171_45.val, .bool false, s171_45.val]) rfl (by kernel_rfl)) ?_
 refine VL.lit (α := Rectoref11Chunk) (xs := [.tmp 177]) (vs := [.agg #[s171_45.val, s171_45.val, s171_45.val, .bool false, s171_45.val]]) [⟨s171_45, s171_45, s171_45, false, s171_45⟩] Tryz.underlying265 glit268 (by decide) rfl rfl rfl rfl (by decide) (fun h m => List.forall_mem_cons.2 ⟨InM.out (X := (s171_45.ok.and (s171_45.ok.and (s171_45.ok.and s171_45.ok)))) h m, fun _ h => by cases h⟩) (by decide) (fun s178_47 hs178_47 => ?_) (by decide)
 replace hS := lt_to (congrArg (List.map Rectoref11Chunk.pl) hs178_47) hS
 obtain ⟨b179, hS⟩ := gd_s hS
 refine VL.app (s := out14_23) (r := s178_47) Tryz.underlying265 gapp268 (by decide) rfl Fo.out (ap1 (apm b179)) (ap2 (apm b179) (by decide)) (by decide) (fun s179_49 hs179_49 => ?_)
 replace hS := lt_to ((congrArg (List.map Rectoref11Chunk.pl) hs179_49).trans List.map_append) hS
 refine VL.maApp hs179_49 ?_
 refine Zy ?_
 refine VC.keep [0, 1, 2, 7, 9, 12, 13, 14, 18, 19, 20, 21] rfl ?_
 refine Zq (Zr ?_)
 refine Zy ?_
 refine Zq (Zr ?_)
 refine Zy ?_
 obtain ⟨b183, hS⟩ := gd_s hS
 refine Zu (q_add rfl rfl b183) ?_
 refine Zm ?_
 obtain ⟨b185, hS⟩ := gd_s hS
 refine Zu (q_sub rfl rfl b185) ?_
 refine Zy ?_
 refine VC.keep [0, 1, 2, 7, 9, 12, 13, 14, 18, 20, 21, 15, 16] rfl ?_
 refine Zr ?_
 refine Zy ?_
 obtain ⟨b188, hS⟩ := gd_s hS
 refine Zu (q_add rfl rfl b188) ?_
 refine Zm ?_
 obtain ⟨b190, hS⟩ := gd_s hS
 refine Zu (q_sub rfl rfl b190) ?_
 refine Za ?_
 refine VL.rnd (s179_49, m21_38, ((jo19_18 + m21_38) - n18_12), ((kt20_19 + m21_38) - n18_12)) [0, 1, 2, 7, 9, 12, 13, 14, 15, 16, 17] (fun _ _ h => h) (go2 hS hK1) rfl
theorem r11_Join_ct (l_0 : Sv Str) {r : Str} (hS : Sh.r11_Join l_0.l = some r) :
 Ct Tryz.prog 188 [l_0.val] l_0.ok (Ow.emp) (X := Unit) (fun _ => str r) (fun _ => True) (fun _ => Mo.tt) (fun _ => Ow.emp) := by
 refine Zo Tryz.func188 Tryz.ntmps188 fun c => ?_
 unfold Sh.r11_Join at hS
 refine Zq (Zr ?_)
 refine Zy ?_
 refine Zq (Zr ?_)
 refine Zy ?_
 refine Zq (Zq (Zr ?_))
 refine Zy ?_
 refine Zb ?_
 refine VC.iter (S := Str × Int) (fun sg => (sg.1, sg.2)) (fun sg => [(0, l_0.val), (3, str sg.1), (4, i64 sg.2)]) (fun sg => Mo.tt) (fun sg => Ow.emp) ([], 0) [0, 3, 4] hS rfl ?_
 clear hS
 rintro ⟨s3_1, i4_2⟩ m1 y1 hS hK1
 refine Zq (Zq (Zr ?_))
 refine Zy ?_
 refine Zu (q_ln (s := l_0) Tryz.underlying82 rfl) ?_
 refine Zu (q_lss rfl rfl) ?_
 refine Zl ?_
 refine Zc hS (fun h8 hS => ?_) (fun h8 hS => ?_)
 ·
  refine Zk ?_
  refine Zq (Zb (Zr ?_))
  refine Zy ?_
  obtain ⟨z14_3, nz14_3, hz14_3, hS⟩ := at_s hS
  refine Zu (q_ixm (s := l_0) Tryz.underlying82 gsz9 rfl rfl nz14_3 (lt_of_get nz14_3 hz14_3)) ?_
  refine Zu (q_el (s := l_0) gone9 rfl hz14_3 rfl) ?_
  obtain ⟨b16, hS⟩ := gd_s hS
  obtain ⟨y16_4, ey16_4, hS⟩ := lt_s hS
  refine Zu (q_catE rfl rfl b16 ey16_4) ?_
  refine Zy ?_
  refine VC.keep [0, 3, 4] rfl ?_
  refine Zr ?_
  refine Zm ?_
  obtain ⟨b10, hS⟩ := gd_s hS
  refine Zu (q_add rfl rfl b10) ?_
  refine Za ?_
  refine VL.rnd (y16_4, (i4_2 + 1)) [0, 3, 4] (fun _ _ h => h) (go2 hS hK1) rfl
 replace hS := up2 hS hK1
 refine Zx ?_
 refine Zq (Zr ?_)
 refine Zy ?_
 cases hS
 exact Ze
theorem r11_ended_ct (s_0 : Str) {r : Str} (hS : Sh.r11_ended s_0 = some r) :
 Ct Tryz.prog 235 [str s_0] Mo.tt (Ow.emp) (X := Unit) (fun _ => str r) (fun _ => True) (fun _ => Mo.tt) (fun _ => Ow.emp) := by
 refine Zo Tryz.func235 Tryz.ntmps235 fun c => ?_
 unfold Sh.r11_ended at hS
 refine Zq (Zr ?_)
 refine Zy ?_
 refine Zq ?_
 refine VC.cutJ (S := Bool) (fun (x13_1 : Bool) => x13_1) (fun (x13_1 : Bool) => [(0, str s_0), (13, .bool x13_1)]) (fun (x13_1 : Bool) => Mo.tt) (fun (x13_1 : Bool) => Ow.emp) hS ?_ ?_
 ·
  clear hS
  intro k2 hS
  refine Zr ?_
  refine Zm ?_
  refine Zu (q_slen Tryz.underlying9 rfl) ?_
  refine Zu (q_gtr rfl rfl) ?_
  refine Zm ?_
  refine Zsp 6 hS (fun h6 hS => ?_) (fun h6 hS => ?_)
  ·
   refine Zy ?_
   refine Zh (q_slen Tryz.underlying9 rfl) ?_
   obtain ⟨b10, hS⟩ := gd_s hS
   refine Zh (q_sub rfl rfl b10) ?_
   obtain ⟨z11_3, nz11_3, hz11_3, hS⟩ := at_s hS
   refine Zh (q_sidx Tryz.underlying9 rfl rfl nz11_3 hz11_3) ?_
   refine Zh (q_eql rfl rfl) ?_
   refine Zt ?_
   refine VL.mt (decide ((z11_3.toNat : Int) = 10)) [0, 13] (fun _ _ h => h) hS rfl
  refine Zy ?_
  refine VL.mt false [0, 13] (fun _ _ h => h) hS rfl
 clear hS
 rintro x13_1 hS
 refine Zcb hS (fun h13 hS => ?_) (fun h13 hS => ?_)
 ·
  refine Zq (Zr ?_)
  refine Zy ?_
  cases hS
  exact Ze
 refine Zk ?_
 refine Zq (Zr ?_)
 refine Zm ?_
 obtain ⟨b16, hS⟩ := gd_s hS
 obtain ⟨y16_4, ey16_4, hS⟩ := lt_s hS
 refine Zu (q_catE rfl rfl b16 ey16_4) ?_
 refine Zy ?_
 cases hS
 exact Ze
theorem r11_marked_ct (l_0 : Sv Str) {r : Str} (hS : Sh.r11_marked l_0.l = some r) :
 Ct Tryz.prog 189 [l_0.val] l_0.ok (Ow.emp) (X := Unit) (fun _ => str r) (fun _ => True) (fun _ => Mo.tt) (fun _ => Ow.emp) := by
 refine Zo Tryz.func189 Tryz.ntmps189 fun c => ?_
 unfold Sh.r11_marked at hS
 refine Zq (Zr ?_)
 refine Zy ?_
 refine Zq (Zr ?_)
 refine Zm ?_
 obtain ⟨y5_1, ey5_1, hS⟩ := bd_s hS
 refine Zu (q_call (r11_Join_ct l_0 ey5_1) rfl (fun _ _ => rfl)) ?_
 refine Zy ?_
 refine Zq (Zq (Zr ?_))
 refine Zy ?_
 refine Zc hS (fun h7 hS => ?_) (fun h7 hS => ?_)
 ·
  refine Zq (Zr ?_)
  refine Zy ?_
  cases hS
  exact Ze
 refine Zk ?_
 refine Zq (Zr ?_)
 refine Zm ?_
 obtain ⟨y9_2, ey9_2, hS⟩ := bd_s hS
 refine Zu (q_call (r11_ended_ct y5_1 ey9_2) rfl (fun _ _ => rfl)) ?_
 refine Zy ?_
 cases hS
 exact Ze
theorem r11_Text_ct (base_0 : Str) (ours_1 : Str) (theirs_2 : Str) (a_3 : Str) (b_4 : Str) {r : Str × Int × Rectoref3WrongP} (hS : Sh.r11_Text base_0 ours_1 theirs_2 a_3 b_4 = some r) :
 Ct Tryz.prog 128 [str base_0, str ours_1, str theirs_2, str a_3, str b_4] Mo.tt (Ow.emp) (X := Str × Int × Rectoref3Wrong) (fun x => .tuple #[str x.1, i64 x.2.1, .agg (Dat.enc x.2.2).toArray]) (fun x => r = (x.1, x.2.1, x.2.2.pl)) (fun x => x.2.2.m) (fun x => Ow.emp) := by
 refine Zo Tryz.func128 Tryz.ntmps128 fun c => ?_
 unfold Sh.r11_Text at hS
 refine Zq (Zr ?_)
 refine Zy ?_
 refine VL.alloc (cs := [.slice none 0 0, i64 0]) (by kernel_rfl) (by decide) fun b12_1 => ?_
 refine Zl ?_
 refine Zq (Zr ?_)
 refine Zm ?_
 obtain ⟨y20_2, ey20_2, hS⟩ := bd_s hS
 refine VL.callO (r11_Split_ct base_0 ey20_2) rfl (by decide) ?_
 rintro q20_2_0 rfl
 try dsimp only
 refine Zm ?_
 obtain ⟨y22_3, ey22_3, hS⟩ := bd_s hS
 refine VL.callO (r11_Split_ct ours_1 ey22_3) rfl (by decide) ?_
 rintro q22_3_0 rfl
 try dsimp only
 refine Zm ?_
 obtain ⟨y24_4, ey24_4, hS⟩ := bd_s hS
 refine VL.callO (r11_Split_ct theirs_2 ey24_4) rfl (by decide) ?_
 rintro q24_4_0 rfl
 try dsimp only
 refine VL.shut q20_2_0 9 (fun _ _ _ _ => trivial) ?_
 refine VL.shut q22_3_0 9 (fun _ _ _ _ => trivial) ?_
 refine VL.shut q24_4_0 9 (fun _ _ _ _ => trivial) ?_
 obtain ⟨y25_5, ey25_5, hS⟩ := bd_s hS
 refine VL.callF (r11_Chunks_ct q20_2_0 q22_3_0 q24_4_0 ey25_5) rfl (by decide) ?_
 rintro ⟨q25_5_0, q25_5_1⟩ rfl
 try dsimp only
 refine Zm ?_
 refine Zu (q_extract rfl rfl) ?_
 refine Zu (q_extract rfl rfl) ?_
 refine VL.alloc (cs := [.slice none 0 0, i64 0]) (by kernel_rfl) (by decide) fun b14_6 => ?_
 refine Za ?_
 refine Zv (vc := [q25_5_1.parts.val, i64 q25_5_1.err]) (cs' := [q25_5_1.parts.val, i64 q25_5_1.err]) rfl gsz54 ?_
 refine Zl ?_
 refine VC.keep [3, 4, 12, 14, 13] rfl ?_
 refine Zq (Zq (Zr ?_))
 refine Zu (q_field gfa54_1 rfl) ?_
 refine Zu (q_fe gone3 rfl rfl) ?_
 refine Zu (q_neq rfl rfl) ?_
 refine Zl ?_
 refine Zcn hS (fun h30 hS => ?_) (fun h30 hS => ?_)
 ·
  refine Zq ?_
  refine VC.draw [(0, true), (1, true), (2, true), (3, false)] mixed (by kernel_rfl) (by kernel_rfl) (by kernel_rfl) ?_
  refine Zw rfl (q_fes gagg54 rfl rfl) ?_
  refine Zw rfl (q_assign rfl) ?_
  refine Zw rfl (q_assign rfl) ?_
  refine VD.one rfl ?_
  refine Zv (vc := [q25_5_1.parts.val, i64 q25_5_1.err]) (cs' := [q25_5_1.parts.val, i64 q25_5_1.err]) rfl gsz54 ?_
  refine VL.back (D' := []) (by kernel_rfl) (Pend.nil) ?_
  refine VD.to (fun _ _ h => h) ?_
  refine VC.keep [12, 10, 11] rfl ?_
  cases hS
  exact VC.ret (finG (vs := [str [], i64 0, .agg #[q25_5_1.parts.val, i64 q25_5_1.err]]) (.inr rfl) rfl (RVs.tmp rfl (RVs.tmp rfl (RVs.cell gagg54 rfl rfl Rd.blk (RVs.nil)))) ([], 0, ⟨q25_5_1.parts, q25_5_1.err⟩) rfl rfl (by (try dsimp only); exact InM.out) (fun _ _ => trivial))
 refine Zk ?_
 refine Zq (Zr ?_)
 refine Zy ?_
 refine Zq (Zr ?_)
 refine Zy ?_
 refine Zq (Zq (Zr ?_))
 refine Zy ?_
 refine Zb ?_
 refine VC.iter (S := Str × Int × Int) (fun sg => (sg.1, sg.2.1, sg.2.2)) (fun sg => [(3, str a_3), (4, str b_4), (12, ptr b12_1 0), (13, q25_5_0.val), (14, ptr b14_6 0), (15, str sg.1), (16, i64 sg.2.1), (17, i64 sg.2.2)]) (fun sg => Mo.tt) (fun sg => Ow.star (Blk b14_6 [q25_5_1.parts.val, i64 q25_5_1.err] 54) (Ow.star (Blk b12_1 [.slice none 0 0, i64 0] 54) (Ow.emp))) ([], 0, 0) [3, 4, 12, 13, 14, 15, 16, 17] hS rfl ?_
 clear hS
 rintro ⟨s15_7, n16_8, i17_9⟩ m1 y1 hS hK1
 refine Zq (Zq (Zr ?_))
 refine Zy ?_
 refine Zu (q_lnm Rectoref11Chunk.pl (s := q25_5_0) Tryz.underlying265 rfl) ?_
 refine Zu (q_lss rfl rfl) ?_
 refine Zl ?_
 refine Zc hS (fun h35 hS => ?_) (fun h35 hS => ?_)
 ·
  refine Zk ?_
  refine VC.cutJ (S := Str × Int) (fun sg => (sg.1, sg.2)) (fun sg => [(3, str a_3), (4, str b_4), (12, ptr b12_1 0), (13, q25_5_0.val), (14, ptr b14_6 0), (15, str sg.1), (16, i64 sg.2), (17, i64 i17_9)]) (fun sg => Mo.tt) (fun sg => Ow.star (Blk b14_6 [q25_5_1.parts.val, i64 q25_5_1.err] 54) (Ow.star (Blk b12_1 [.slice none 0 0, i64 0] 54) (Ow.emp))) hS ?_ ?_
  ·
   clear hS
   intro k12 hS
   refine Zb (Zq (Zq (Zr ?_)))
   refine Zy ?_
   obtain ⟨z40_13, nz40_13, hz40_13, hS⟩ := atm_s hS
   refine VL.deep z40_13.m hz40_13 (fun _ q => q) ?_
   refine Zu (q_ixm (s := q25_5_0) Tryz.underlying265 gsz268 rfl rfl nz40_13 (lt_of_get nz40_13 hz40_13)) ?_
   refine Zu (q_field gfa268_3 rfl) ?_
   refine Zu (q_elf (s := q25_5_0) gone4 rfl hz40_13 rfl) ?_
   refine Zu (q_not rfl) ?_
   refine Zl ?_
   refine VC.keep [3, 4, 12, 13, 14, 15, 16, 17, 43] rfl ?_
   refine Zcb hS (fun h43 hS => ?_) (fun h43 hS => ?_)
   ·
    refine Zq (Zr ?_)
    refine Zy ?_
    obtain ⟨z47_14, nz47_14, hz47_14, hS⟩ := atm_s hS
    refine VL.deep z47_14.m hz47_14 (fun _ q => q) ?_
    refine Zu (q_ixm (s := q25_5_0) Tryz.underlying265 gsz268 rfl rfl nz47_14 (lt_of_get nz47_14 hz47_14)) ?_
    refine Zu (q_field gfa268_4 rfl) ?_
    refine Zu (q_elf (s := q25_5_0) gone82 rfl hz47_14 rfl) ?_
    obtain ⟨y50_15, ey50_15, hS⟩ := bd_s hS
    refine Zu (q_call (r11_Join_ct z47_14.out ey50_15) rfl (fun _ _ => rfl)) ?_
    obtain ⟨b51, hS⟩ := gd_s hS
    obtain ⟨y51_16, ey51_16, hS⟩ := lt_s hS
    refine Zu (q_catE rfl rfl b51 ey51_16) ?_
    refine Zy ?_
    refine VC.keep [3, 4, 12, 13, 14, 15, 16, 17] rfl ?_
    refine VC.exit_mt (y51_16, n16_8) [3, 4, 12, 13, 14, 15, 16, 17] (fun _ _ h => h) hS rfl
   refine Zk ?_
   refine Zq (Zr ?_)
   refine Zm ?_
   obtain ⟨b53, hS⟩ := gd_s hS
   refine Zu (q_add rfl rfl b53) ?_
   refine Zy ?_
   refine VC.draw ((List.range 25).map fun k => (k, true)) mixed (by kernel_rfl) (by kernel_rfl) (by kernel_rfl) ?_
   refine Zw rfl (q_move rfl) ?_
   obtain ⟨b55, hS⟩ := gd_s hS
   obtain ⟨y55_17, ey55_17, hS⟩ := lt_s hS
   refine Zw rfl (q_catE rfl rfl b55 ey55_17) ?_
   refine Zw rfl (q_move rfl) ?_
   obtain ⟨b57, hS⟩ := gd_s hS
   obtain ⟨y57_18, ey57_18, hS⟩ := lt_s hS
   refine Zw rfl (q_catE rfl rfl b57 ey57_18) ?_
   obtain ⟨b58, hS⟩ := gd_s hS
   obtain ⟨y58_19, ey58_19, hS⟩ := lt_s hS
   refine Zw rfl (q_catE rfl rfl b58 ey58_19) ?_
   refine Zw rfl (q_move rfl) ?_
   refine Zw rfl (q_move rfl) ?_
   obtain ⟨z61_20, nz61_20, hz61_20, hS⟩ := atm_s hS
   refine VD.deep z61_20.m hz61_20 (fun _ q => q) ?_
   refine Zw rfl (q_ixm (s := q25_5_0) Tryz.underlying265 gsz268 rfl rfl nz61_20 (lt_of_get nz61_20 hz61_20)) ?_
   refine Zw rfl (q_field gfa268_1 rfl) ?_
   refine Zw rfl (q_elf (s := q25_5_0) gone82 rfl hz61_20 rfl) ?_
   obtain ⟨y64_21, ey64_21, hS⟩ := bd_s hS
   refine Zw rfl (q_call (r11_marked_ct z61_20.ours ey64_21) rfl (fun _ _ => rfl)) ?_
   obtain ⟨b65, hS⟩ := gd_s hS
   obtain ⟨y65_22, ey65_22, hS⟩ := lt_s hS
   refine Zw rfl (q_catE rfl rfl b65 ey65_22) ?_
   obtain ⟨b66, hS⟩ := gd_s hS
   obtain ⟨y66_23, ey66_23, hS⟩ := lt_s hS
   refine Zw rfl (q_catE rfl rfl b66 ey66_23) ?_
   refine Zw rfl (q_move rfl) ?_
   refine Zw rfl (q_move rfl) ?_
   obtain ⟨z69_24, nz69_24, hz69_24, hS⟩ := atm_s hS
   refine VD.deep z69_24.m hz69_24 (fun _ q => q) ?_
   refine Zw rfl (q_ixm (s := q25_5_0) Tryz.underlying265 gsz268 rfl rfl nz69_24 (lt_of_get nz69_24 hz69_24)) ?_
   refine Zw rfl (q_field gfa268_2 rfl) ?_
   refine Zw rfl (q_elf (s := q25_5_0) gone82 rfl hz69_24 rfl) ?_
   obtain ⟨y72_25, ey72_25, hS⟩ := bd_s hS
   refine Zw rfl (q_call (r11_marked_ct z69_24.theirs ey72_25) rfl (fun _ _ => rfl)) ?_
   obtain ⟨b73, hS⟩ := gd_s hS
   obtain ⟨y73_26, ey73_26, hS⟩ := lt_s hS
   refine Zw rfl (q_catE rfl rfl b73 ey73_26) ?_
   obtain ⟨b74, hS⟩ := gd_s hS
   obtain ⟨y74_27, ey74_27, hS⟩ := lt_s hS
   refine Zw rfl (q_catE rfl rfl b74 ey74_27) ?_
   refine Zw rfl (q_move rfl) ?_
   obtain ⟨b76, hS⟩ := gd_s hS
   obtain ⟨y76_28, ey76_28, hS⟩ := lt_s hS
   refine Zw rfl (q_catE rfl rfl b76 ey76_28) ?_
   obtain ⟨b77, hS⟩ := gd_s hS
   obtain ⟨y77_29, ey77_29, hS⟩ := lt_s hS
   refine Zw rfl (q_catE rfl rfl b77 ey77_29) ?_
   refine Zw rfl (q_assign rfl) ?_
   refine VD.mt (y77_29, (n16_8 + 1)) [3, 4, 12, 13, 14, 15, 16, 17] (fun _ _ h => h) hS rfl
  clear hS
  rintro ⟨s15_10, n16_11⟩ hS
  refine Zr ?_
  refine Zm ?_
  obtain ⟨b37, hS⟩ := gd_s hS
  refine Zu (q_add rfl rfl b37) ?_
  refine Za ?_
  refine VL.rnd (s15_10, n16_11, (i17_9 + 1)) [3, 4, 12, 13, 14, 15, 16, 17] (fun _ _ h => h) (go2 hS hK1) rfl
 replace hS := up2 hS hK1
 refine Zx ?_
 refine VC.keep [12, 14, 15, 16] rfl ?_
 refine Zq ?_
 refine VC.draw [(0, true), (1, true), (2, true), (3, true), (4, true), (5, false)] mixed (by kernel_rfl) (by kernel_rfl) (by kernel_rfl) ?_
 refine Zw rfl (q_move rfl) ?_
 refine Zw rfl (q_move rfl) ?_
 refine Zw rfl (q_fes gagg54 rfl rfl) ?_
 refine Zw rfl (q_assign rfl) ?_
 refine Zw rfl (q_assign rfl) ?_
 refine VD.one rfl ?_
 refine Zv (vc := [q25_5_1.parts.val, i64 q25_5_1.err]) (cs' := [q25_5_1.parts.val, i64 q25_5_1.err]) rfl gsz54 ?_
 refine VL.back (D' := []) (by kernel_rfl) (Pend.nil) ?_
 refine VD.to (fun _ _ h => h) ?_
 cases hS
 exact VC.ret (finG (vs := [str s15_7, i64 n16_8, .agg #[q25_5_1.parts.val, i64 q25_5_1.err]]) (.inr rfl) rfl (RVs.tmp rfl (RVs.tmp rfl (RVs.cell gagg54 rfl rfl Rd.blk (RVs.nil)))) (s15_7, n16_8, ⟨q25_5_1.parts, q25_5_1.err⟩) rfl rfl (by (try dsimp only); exact InM.out) (fun _ _ => trivial))
theorem r14_both_ct (b_0 : Rectoref14File) (is_1 : Bool) (o_2 : Rectoref14File) (t_3 : Rectoref14File) (an_4 : Str) (bn_5 : Str) {r : Rectoref14File × Bool} (hS : Sh.r14_both b_0 is_1 o_2 t_3 an_4 bn_5 = some r) :
 Ct Tryz.prog 63 [.agg #[str b_0.path, i64 b_0.mode, str b_0.data], .bool is_1, .agg #[str o_2.path, i64 o_2.mode, str o_2.data], .agg #[str t_3.path, i64 t_3.mode, str t_3.data], str an_4, str bn_5] Mo.tt (Ow.emp) (X := Unit) (fun _ => .tuple #[.agg #[str r.1.path, i64 r.1.mode, str r.1.data], .bool r.2]) (fun _ => True) (fun _ => Mo.tt) (fun _ => Ow.emp) := by
 refine Zo Tryz.func63 Tryz.ntmps63 fun c => ?_
 unfold Sh.r14_both at hS
 refine Zq (Zr ?_)
 refine VL.box (cs := [str b_0.path, i64 b_0.mode, str b_0.data]) rfl rfl (by decide) fun b6_1 => ?_
 refine VL.box (cs := [str o_2.path, i64 o_2.mode, str o_2.data]) rfl rfl (by decide) fun b8_2 => ?_
 refine VL.box (cs := [str t_3.path, i64 t_3.mode, str t_3.data]) rfl rfl (by decide) fun b9_3 => ?_
 refine VL.alloc (cs := [str [], i64 0, str []]) (by kernel_rfl) (by decide) fun b12_4 => ?_
 refine Zy ?_
 refine Zq (Zr ?_)
 refine Zu (q_fes gagg45 rfl rfl) ?_
 refine VL.alloc (cs := [str [], i64 0, str []]) (by kernel_rfl) (by decide) fun b14_5 => ?_
 refine Zv (vc := [str o_2.path, i64 o_2.mode, str o_2.data]) (cs' := [str o_2.path, i64 o_2.mode, str o_2.data]) rfl gsz45 ?_
 refine Zl ?_
 refine VC.cutJ (S := Int) (fun (c1_6 : Int) => c1_6) (fun (c1_6 : Int) => [(1, .bool is_1), (4, str an_4), (5, str bn_5), (6, ptr b6_1 0), (8, ptr b8_2 0), (9, ptr b9_3 0), (12, ptr b12_4 0), (14, ptr b14_5 0)]) (fun (c1_6 : Int) => Mo.tt) (fun (c1_6 : Int) => Ow.star (Blk b14_5 [str o_2.path, i64 c1_6, str o_2.data] 45) (Ow.star (Blk b12_4 [str [], i64 0, str []] 45) (Ow.star (Blk b9_3 [str t_3.path, i64 t_3.mode, str t_3.data] 45) (Ow.star (Blk b8_2 [str o_2.path, i64 o_2.mode, str o_2.data] 45) (Ow.star (Blk b6_1 [str b_0.path, i64 b_0.mode, str b_0.data] 45) (Ow.emp)))))) hS ?_ ?_
 ·
  clear hS
  intro k7 hS
  refine VC.cutJ (S := Bool) (fun (x26_8 : Bool) => x26_8) (fun (x26_8 : Bool) => [(1, .bool is_1), (4, str an_4), (5, str bn_5), (6, ptr b6_1 0), (8, ptr b8_2 0), (9, ptr b9_3 0), (12, ptr b12_4 0), (14, ptr b14_5 0), (26, .bool x26_8)]) (fun (x26_8 : Bool) => Mo.tt) (fun (x26_8 : Bool) => Ow.star (Blk b14_5 [str o_2.path, i64 o_2.mode, str o_2.data] 45) (Ow.star (Blk b12_4 [str [], i64 0, str []] 45) (Ow.star (Blk b9_3 [str t_3.path, i64 t_3.mode, str t_3.data] 45) (Ow.star (Blk b8_2 [str o_2.path, i64 o_2.mode, str o_2.data] 45) (Ow.star (Blk b6_1 [str b_0.path, i64 b_0.mode, str b_0.data] 45) (Ow.emp)))))) hS ?_ ?_
  ·
   clear hS
   intro k9 hS
   refine Zr ?_
   refine Zy ?_
   refine Zspb 20 hS (fun h20 hS => ?_) (fun h20 hS => ?_)
   ·
    refine Zh (q_field gfa45_1 rfl) ?_
    refine Zh (q_fe gone3 rfl rfl) ?_
    refine Zh (q_field gfa45_1 rfl) ?_
    refine Zh (q_fe gone3 rfl rfl) ?_
    refine Zh (q_eql rfl rfl) ?_
    refine Zt ?_
    refine VL.mt (decide (b_0.mode = o_2.mode)) [1, 4, 5, 6, 8, 9, 12, 14, 26] (fun _ _ h => h) hS rfl
   refine Zy ?_
   refine VL.mt false [1, 4, 5, 6, 8, 9, 12, 14, 26] (fun _ _ h => h) hS rfl
  clear hS
  rintro x26_8 hS
  refine Zcb hS (fun h26 hS => ?_) (fun h26 hS => ?_)
  ·
   refine Zr ?_
   refine Zu (q_field gfa45_1 rfl) ?_
   refine Zu (q_fe gone3 rfl rfl) ?_
   refine Zu (q_field gfa45_1 rfl) ?_
   refine Zv (vc := [i64 t_3.mode]) (cs' := [str o_2.path, i64 t_3.mode, str o_2.data]) rfl gsz3 ?_
   refine VL.mt t_3.mode [1, 4, 5, 6, 8, 9, 12, 14] (fun _ _ h => h) hS rfl
  refine VC.skip_mt o_2.mode [1, 4, 5, 6, 8, 9, 12, 14] (fun _ _ h => h) hS rfl
 clear hS
 rintro c1_6 hS
 refine Zq (Zb (Zq (Zr ?_)))
 refine Zu (q_field gfa45_2 rfl) ?_
 refine Zu (q_fe gone9 rfl rfl) ?_
 refine Zu (q_field gfa45_2 rfl) ?_
 refine Zu (q_fe gone9 rfl rfl) ?_
 refine Zy ?_
 refine Zc hS (fun h30 hS => ?_) (fun h30 hS => ?_)
 ·
  refine Zq (Zr ?_)
  refine Zu (q_fes gagg45 rfl rfl) ?_
  refine Zv (vc := [str o_2.path, i64 c1_6, str o_2.data]) (cs' := [str o_2.path, i64 c1_6, str o_2.data]) rfl gsz45 ?_
  refine Zy ?_
  refine VC.keep [12, 13] rfl ?_
  cases hS
  exact VC.ret (finG (vs := [.agg #[str o_2.path, i64 c1_6, str o_2.data], .bool false]) (.inr rfl) rfl (RVs.cell gagg45 rfl rfl Rd.blk (RVs.tmp rfl (RVs.nil))) () rfl trivial (by (try dsimp only); exact InM.out) (fun _ _ => trivial))
 refine VC.cutJ (S := Bool) (fun (x37_10 : Bool) => x37_10) (fun (x37_10 : Bool) => [(1, .bool is_1), (4, str an_4), (5, str bn_5), (6, ptr b6_1 0), (8, ptr b8_2 0), (9, ptr b9_3 0), (12, ptr b12_4 0), (14, ptr b14_5 0), (37, .bool x37_10)]) (fun (x37_10 : Bool) => Mo.tt) (fun (x37_10 : Bool) => Ow.star (Blk b14_5 [str o_2.path, i64 c1_6, str o_2.data] 45) (Ow.star (Blk b12_4 [str [], i64 0, str []] 45) (Ow.star (Blk b9_3 [str t_3.path, i64 t_3.mode, str t_3.data] 45) (Ow.star (Blk b8_2 [str o_2.path, i64 o_2.mode, str o_2.data] 45) (Ow.star (Blk b6_1 [str b_0.path, i64 b_0.mode, str b_0.data] 45) (Ow.emp)))))) hS ?_ ?_
 ·
  clear hS
  intro k11 hS
  refine Zr ?_
  refine Zy ?_
  refine Zspb 39 hS (fun h39 hS => ?_) (fun h39 hS => ?_)
  ·
   refine Zh (q_field gfa45_2 rfl) ?_
   refine Zh (q_fe gone9 rfl rfl) ?_
   refine Zh (q_field gfa45_2 rfl) ?_
   refine Zh (q_fe gone9 rfl rfl) ?_
   refine Zh (q_seq rfl rfl) ?_
   refine Zy ?_
   refine VL.mt (decide (o_2.data = b_0.data)) [1, 4, 5, 6, 8, 9, 12, 14, 37] (fun _ _ h => h) hS rfl
  refine Zy ?_
  refine VL.mt false [1, 4, 5, 6, 8, 9, 12, 14, 37] (fun _ _ h => h) hS rfl
 clear hS
 rintro x37_10 hS
 refine Zcb hS (fun h37 hS => ?_) (fun h37 hS => ?_)
 ·
  refine Zq (Zr ?_)
  refine Zu (q_field gfa45_2 rfl) ?_
  refine Zu (q_fe gone9 rfl rfl) ?_
  refine Zu (q_field gfa45_2 rfl) ?_
  refine Zv (vc := [str t_3.data]) (cs' := [str o_2.path, i64 c1_6, str t_3.data]) rfl gsz9 ?_
  refine Zl ?_
  refine VC.keep [12, 14] rfl ?_
  refine Zq (Zr ?_)
  refine Zu (q_fes gagg45 rfl rfl) ?_
  refine Zv (vc := [str o_2.path, i64 c1_6, str t_3.data]) (cs' := [str o_2.path, i64 c1_6, str t_3.data]) rfl gsz45 ?_
  refine Zy ?_
  cases hS
  exact VC.ret (finG (vs := [.agg #[str o_2.path, i64 c1_6, str t_3.data], .bool false]) (.inr rfl) rfl (RVs.cell gagg45 rfl rfl Rd.blk (RVs.tmp rfl (RVs.nil))) () rfl trivial (by (try dsimp only); exact InM.out) (fun _ _ => trivial))
 refine VC.cutJ (S := Bool) (fun (x50_12 : Bool) => x50_12) (fun (x50_12 : Bool) => [(4, str an_4), (5, str bn_5), (6, ptr b6_1 0), (8, ptr b8_2 0), (9, ptr b9_3 0), (12, ptr b12_4 0), (14, ptr b14_5 0), (50, .bool x50_12)]) (fun (x50_12 : Bool) => Mo.tt) (fun (x50_12 : Bool) => Ow.star (Blk b14_5 [str o_2.path, i64 c1_6, str o_2.data] 45) (Ow.star (Blk b12_4 [str [], i64 0, str []] 45) (Ow.star (Blk b9_3 [str t_3.path, i64 t_3.mode, str t_3.data] 45) (Ow.star (Blk b8_2 [str o_2.path, i64 o_2.mode, str o_2.data] 45) (Ow.star (Blk b6_1 [str b_0.path, i64 b_0.mode, str b_0.data] 45) (Ow.emp)))))) hS ?_ ?_
 ·
  clear hS
  intro k13 hS
  refine Zr ?_
  refine Zy ?_
  refine Zspb 52 hS (fun h52 hS => ?_) (fun h52 hS => ?_)
  ·
   refine Zh (q_field gfa45_2 rfl) ?_
   refine Zh (q_fe gone9 rfl rfl) ?_
   refine Zh (q_field gfa45_2 rfl) ?_
   refine Zh (q_fe gone9 rfl rfl) ?_
   refine Zh (q_seq rfl rfl) ?_
   refine Zy ?_
   refine VL.mt (decide (t_3.data = b_0.data)) [4, 5, 6, 8, 9, 12, 14, 50] (fun _ _ h => h) hS rfl
  refine Zy ?_
  refine VL.mt false [4, 5, 6, 8, 9, 12, 14, 50] (fun _ _ h => h) hS rfl
 clear hS
 rintro x50_12 hS
 refine Zcb hS (fun h50 hS => ?_) (fun h50 hS => ?_)
 ·
  refine Zq (Zr ?_)
  refine Zu (q_fes gagg45 rfl rfl) ?_
  refine Zv (vc := [str o_2.path, i64 c1_6, str o_2.data]) (cs' := [str o_2.path, i64 c1_6, str o_2.data]) rfl gsz45 ?_
  refine Zy ?_
  cases hS
  exact VC.ret (finG (vs := [.agg #[str o_2.path, i64 c1_6, str o_2.data], .bool false]) (.inr rfl) rfl (RVs.cell gagg45 rfl rfl Rd.blk (RVs.tmp rfl (RVs.nil))) () rfl trivial (by (try dsimp only); exact InM.out) (fun _ _ => trivial))
 refine Zk ?_
 refine Zq (Zr ?_)
 refine Zu (q_field gfa45_2 rfl) ?_
 refine Zu (q_fe gone9 rfl rfl) ?_
 refine Zu (q_field gfa45_2 rfl) ?_
 refine Zu (q_fe gone9 rfl rfl) ?_
 refine Zu (q_field gfa45_2 rfl) ?_
 refine Zu (q_fe gone9 rfl rfl) ?_
 refine Zy ?_
 obtain ⟨y69_14, ey69_14, hS⟩ := bd_s hS
 refine VL.callF (r11_Text_ct b_0.data o_2.data t_3.data an_4 bn_5 ey69_14) rfl (by decide) ?_
 rintro ⟨q69_14_0, q69_14_1, q69_14_2⟩ rfl
 try dsimp only
 refine Zm ?_
 refine Zu (q_extract rfl rfl) ?_
 refine Zu (q_extract rfl rfl) ?_
 refine Zu (q_extract rfl rfl) ?_
 refine VL.alloc (cs := [.slice none 0 0, i64 0]) (by kernel_rfl) (by decide) fun b17_15 => ?_
 refine Zy ?_
 refine Zv (vc := [q69_14_2.parts.val, i64 q69_14_2.err]) (cs' := [q69_14_2.parts.val, i64 q69_14_2.err]) rfl gsz54 ?_
 refine Zl ?_
 refine VC.keep [12, 14, 17, 15, 16] rfl ?_
 refine Zq ?_
 refine VC.cutJ (S := Bool) (fun (x80_16 : Bool) => x80_16) (fun (x80_16 : Bool) => [(12, ptr b12_4 0), (14, ptr b14_5 0), (15, str q69_14_0), (16, i64 q69_14_1), (80, .bool x80_16)]) (fun (x80_16 : Bool) => Mo.tt) (fun (x80_16 : Bool) => Ow.star (Blk b17_15 [q69_14_2.parts.val, i64 q69_14_2.err] 54) (Ow.star (Blk b14_5 [str o_2.path, i64 c1_6, str o_2.data] 45) (Ow.star (Blk b12_4 [str [], i64 0, str []] 45) (Ow.star (Blk b9_3 [str t_3.path, i64 t_3.mode, str t_3.data] 45) (Ow.star (Blk b8_2 [str o_2.path, i64 o_2.mode, str o_2.data] 45) (Ow.star (Blk b6_1 [str b_0.path, i64 b_0.mode, str b_0.data] 45) (Ow.emp))))))) hS ?_ ?_
 ·
  clear hS
  intro k17 hS
  refine Zr ?_
  refine Zu (q_field gfa54_1 rfl) ?_
  refine Zu (q_fe gone3 rfl rfl) ?_
  refine Zu (q_neq rfl rfl) ?_
  refine Zm ?_
  refine Zspn 76 hS (fun h76 hS => ?_) (fun h76 hS => ?_)
  ·
   refine Zy ?_
   refine VL.mt true [12, 14, 15, 16, 80] (fun _ _ h => h) hS rfl
  refine Zg ?_
  refine Zh (q_slen Tryz.underlying9 rfl) ?_
  refine Zh (q_gtr rfl rfl) ?_
  refine Zf ?_
  refine VL.mt (decide (4096 < (q69_14_0.length : Int))) [12, 14, 15, 16, 80] (fun _ _ h => h) hS rfl
 clear hS
 rintro x80_16 hS
 refine Zcb hS (fun h80 hS => ?_) (fun h80 hS => ?_)
 ·
  refine Zq (Zr ?_)
  refine Zu (q_fes gagg45 rfl rfl) ?_
  refine Zv (vc := [str o_2.path, i64 c1_6, str o_2.data]) (cs' := [str o_2.path, i64 c1_6, str o_2.data]) rfl gsz45 ?_
  refine Zy ?_
  cases hS
  exact VC.ret (finG (vs := [.agg #[str o_2.path, i64 c1_6, str o_2.data], .bool true]) (.inr rfl) rfl (RVs.cell gagg45 rfl rfl Rd.blk (RVs.tmp rfl (RVs.nil))) () rfl trivial (by (try dsimp only); exact InM.out) (fun _ _ => trivial))
 refine Zk ?_
 refine Zq (Zr ?_)
 refine Zm ?_
 refine Zu (q_field gfa45_2 rfl) ?_
 refine Zv (vc := [str q69_14_0]) (cs' := [str o_2.path, i64 c1_6, str q69_14_0]) rfl gsz9 ?_
 refine Zl ?_
 refine Zq (Zr ?_)
 refine Zu (q_fes gagg45 rfl rfl) ?_
 refine Zm ?_
 refine Zu (q_gtr rfl rfl) ?_
 refine Zv (vc := [str o_2.path, i64 c1_6, str q69_14_0]) (cs' := [str o_2.path, i64 c1_6, str q69_14_0]) rfl gsz45 ?_
 refine Zy ?_
 refine VC.keep [12, 13] rfl ?_
 cases hS
 exact VC.ret (finG (vs := [.agg #[str o_2.path, i64 c1_6, str q69_14_0], .bool (decide (0 < q69_14_1))]) (.inr rfl) rfl (RVs.cell gagg45 rfl rfl Rd.blk (RVs.tmp rfl (RVs.nil))) () rfl trivial (by (try dsimp only); exact InM.out) (fun _ _ => trivial))
theorem r14_One_ct (p_0 : Str) (base_1 : Sv Rectoref14File) (ours_2 : Sv Rectoref14File) (theirs_3 : Sv Rectoref14File) (a_4 : Str) (b_5 : Str) {r : Rectoref14File × Bool × Bool} (hS : Sh.r14_One p_0 base_1.l ours_2.l theirs_3.l a_4 b_5 = some r) :
 Ct Tryz.prog 17 [str p_0, base_1.val, ours_2.val, theirs_3.val, str a_4, str b_5] (base_1.ok.and (ours_2.ok.and theirs_3.ok)) (Ow.emp) (X := Unit) (fun _ => .tuple #[.agg #[str r.1.path, i64 r.1.mode, str r.1.data], .bool r.2.1, .bool r.2.2]) (fun _ => True) (fun _ => Mo.tt) (fun _ => Ow.emp) := by
 refine Zo Tryz.func17 Tryz.ntmps17 fun c => ?_
 unfold Sh.r14_One at hS
 refine Zq (Zr ?_)
 refine VL.alloc (cs := [str [], i64 0, str []]) (by kernel_rfl) (by decide) fun b12_1 => ?_
 refine Zy ?_
 refine Zq (Zr ?_)
 refine Zy ?_
 obtain ⟨y26_2, ey26_2, hS⟩ := bd_s hS
 refine Zu (q_call (r14_Get_ct base_1 p_0 ey26_2) rfl (fun _ _ => rfl)) ?_
 refine Zm ?_
 refine Zu (q_extract rfl rfl) ?_
 refine Zu (q_extract rfl rfl) ?_
 refine VL.alloc (cs := [str [], i64 0, str []]) (by kernel_rfl) (by decide) fun b15_3 => ?_
 refine Zv (vc := [str y26_2.1.path, i64 y26_2.1.mode, str y26_2.1.data]) (cs' := [str y26_2.1.path, i64 y26_2.1.mode, str y26_2.1.data]) rfl gsz45 ?_
 refine Zy ?_
 refine VC.keep [0, 1, 2, 3, 4, 5, 12, 15, 16] rfl ?_
 refine Zq (Zr ?_)
 refine Zy ?_
 obtain ⟨y32_4, ey32_4, hS⟩ := bd_s hS
 refine Zu (q_call (r14_Get_ct ours_2 p_0 ey32_4) rfl (fun _ _ => rfl)) ?_
 refine Zm ?_
 refine Zu (q_extract rfl rfl) ?_
 refine Zu (q_extract rfl rfl) ?_
 refine VL.alloc (cs := [str [], i64 0, str []]) (by kernel_rfl) (by decide) fun b17_5 => ?_
 refine Zv (vc := [str y32_4.1.path, i64 y32_4.1.mode, str y32_4.1.data]) (cs' := [str y32_4.1.path, i64 y32_4.1.mode, str y32_4.1.data]) rfl gsz45 ?_
 refine Zy ?_
 refine Zq (Zr ?_)
 refine Zy ?_
 obtain ⟨y38_6, ey38_6, hS⟩ := bd_s hS
 refine Zu (q_call (r14_Get_ct theirs_3 p_0 ey38_6) rfl (fun _ _ => rfl)) ?_
 refine Zm ?_
 refine Zu (q_extract rfl rfl) ?_
 refine Zu (q_extract rfl rfl) ?_
 refine VL.alloc (cs := [str [], i64 0, str []]) (by kernel_rfl) (by decide) fun b19_7 => ?_
 refine Zv (vc := [str y38_6.1.path, i64 y38_6.1.mode, str y38_6.1.data]) (cs' := [str y38_6.1.path, i64 y38_6.1.mode, str y38_6.1.data]) rfl gsz45 ?_
 refine Zy ?_
 refine VC.keep [0, 1, 2, 3, 4, 5, 12, 15, 16, 17, 18, 19, 20] rfl ?_
 refine Zq (Zb ?_)
 refine VC.cutJ (S := Bool) (fun (x41_8 : Bool) => x41_8) (fun (x41_8 : Bool) => [(0, str p_0), (1, base_1.val), (2, ours_2.val), (4, str a_4), (5, str b_5), (12, ptr b12_1 0), (15, ptr b15_3 0), (16, .bool y26_2.2), (17, ptr b17_5 0), (18, .bool y32_4.2), (19, ptr b19_7 0), (20, .bool y38_6.2), (41, .bool x41_8)]) (fun (x41_8 : Bool) => Mo.tt) (fun (x41_8 : Bool) => Ow.star (Blk b19_7 [str y38_6.1.path, i64 y38_6.1.mode, str y38_6.1.data] 45) (Ow.star (Blk b17_5 [str y32_4.1.path, i64 y32_4.1.mode, str y32_4.1.data] 45) (Ow.star (Blk b15_3 [str y26_2.1.path, i64 y26_2.1.mode, str y26_2.1.data] 45) (Ow.star (Blk b12_1 [str [], i64 0, str []] 45) (Ow.emp))))) hS ?_ ?_
 ·
  clear hS
  intro k9 hS
  refine Zr ?_
  refine Zy ?_
  obtain ⟨y45_10, ey45_10, hS⟩ := bd_s hS
  refine Zu (q_call (r14_Like_ct ours_2 theirs_3 p_0 ey45_10) rfl (fun _ _ => rfl)) ?_
  refine Zm ?_
  refine Zspb 46 hS (fun h46 hS => ?_) (fun h46 hS => ?_)
  ·
   refine Zy ?_
   refine VL.mt true [0, 1, 2, 4, 5, 12, 15, 16, 17, 18, 19, 20, 41] (fun _ _ h => h) hS rfl
  refine Zy ?_
  obtain ⟨y50_11, ey50_11, hS⟩ := bd_s hS
  refine Zh (q_call (r14_Like_ct base_1 theirs_3 p_0 ey50_11) rfl (fun _ _ => rfl)) ?_
  refine Zy ?_
  refine VL.mt y50_11 [0, 1, 2, 4, 5, 12, 15, 16, 17, 18, 19, 20, 41] (fun _ _ h => h) hS rfl
 clear hS
 rintro x41_8 hS
 refine Zcb hS (fun h41 hS => ?_) (fun h41 hS => ?_)
 ·
  refine Zq (Zr ?_)
  refine Zu (q_fes gagg45 rfl rfl) ?_
  refine Zm ?_
  refine Zv (vc := [str y32_4.1.path, i64 y32_4.1.mode, str y32_4.1.data]) (cs' := [str y32_4.1.path, i64 y32_4.1.mode, str y32_4.1.data]) rfl gsz45 ?_
  refine Zy ?_
  refine VC.keep [12, 13, 14] rfl ?_
  cases hS
  exact VC.ret (finG (vs := [.agg #[str y32_4.1.path, i64 y32_4.1.mode, str y32_4.1.data], .bool y32_4.2, .bool false]) (.inr rfl) rfl (RVs.cell gagg45 rfl rfl Rd.blk (RVs.tmp rfl (RVs.tmp rfl (RVs.nil)))) () rfl trivial (by (try dsimp only); exact InM.out) (fun _ _ => trivial))
 refine Zq (Zr ?_)
 refine Zy ?_
 obtain ⟨y58_12, ey58_12, hS⟩ := bd_s hS
 refine Zu (q_call (r14_Like_ct base_1 ours_2 p_0 ey58_12) rfl (fun _ _ => rfl)) ?_
 refine Zy ?_
 refine VC.keep [4, 5, 12, 15, 16, 17, 18, 19, 20, 54] rfl ?_
 refine Zcb hS (fun h54 hS => ?_) (fun h54 hS => ?_)
 ·
  refine Zq (Zr ?_)
  refine Zu (q_fes gagg45 rfl rfl) ?_
  refine Zm ?_
  refine Zv (vc := [str y38_6.1.path, i64 y38_6.1.mode, str y38_6.1.data]) (cs' := [str y38_6.1.path, i64 y38_6.1.mode, str y38_6.1.data]) rfl gsz45 ?_
  refine Zy ?_
  refine VC.keep [12, 13, 14] rfl ?_
  cases hS
  exact VC.ret (finG (vs := [.agg #[str y38_6.1.path, i64 y38_6.1.mode, str y38_6.1.data], .bool y38_6.2, .bool false]) (.inr rfl) rfl (RVs.cell gagg45 rfl rfl Rd.blk (RVs.tmp rfl (RVs.tmp rfl (RVs.nil)))) () rfl trivial (by (try dsimp only); exact InM.out) (fun _ _ => trivial))
 refine VC.cutJ (S := Bool) (fun (x61_13 : Bool) => x61_13) (fun (x61_13 : Bool) => [(4, str a_4), (5, str b_5), (12, ptr b12_1 0), (15, ptr b15_3 0), (16, .bool y26_2.2), (17, ptr b17_5 0), (18, .bool y32_4.2), (19, ptr b19_7 0), (20, .bool y38_6.2), (61, .bool x61_13)]) (fun (x61_13 : Bool) => Mo.tt) (fun (x61_13 : Bool) => Ow.star (Blk b19_7 [str y38_6.1.path, i64 y38_6.1.mode, str y38_6.1.data] 45) (Ow.star (Blk b17_5 [str y32_4.1.path, i64 y32_4.1.mode, str y32_4.1.data] 45) (Ow.star (Blk b15_3 [str y26_2.1.path, i64 y26_2.1.mode, str y26_2.1.data] 45) (Ow.star (Blk b12_1 [str [], i64 0, str []] 45) (Ow.emp))))) hS ?_ ?_
 ·
  clear hS
  intro k14 hS
  refine Zr ?_
  refine Zy ?_
  refine Zspb 63 hS (fun h63 hS => ?_) (fun h63 hS => ?_)
  ·
   refine Zy ?_
   refine VL.mt y38_6.2 [4, 5, 12, 15, 16, 17, 18, 19, 20, 61] (fun _ _ h => h) hS rfl
  refine Zy ?_
  refine VL.mt false [4, 5, 12, 15, 16, 17, 18, 19, 20, 61] (fun _ _ h => h) hS rfl
 clear hS
 rintro x61_13 hS
 refine Zcb hS (fun h61 hS => ?_) (fun h61 hS => ?_)
 ·
  refine Zq (Zr ?_)
  refine Zu (q_fes gagg45 rfl rfl) ?_
  refine Zm ?_
  refine Zu (q_fes gagg45 rfl rfl) ?_
  refine Zu (q_fes gagg45 rfl rfl) ?_
  refine Zy ?_
  obtain ⟨y73_15, ey73_15, hS⟩ := bd_s hS
  refine Zu (q_call (r14_both_ct (⟨y26_2.1.path, y26_2.1.mode, y26_2.1.data⟩ : Rectoref14File) y26_2.2 (⟨y32_4.1.path, y32_4.1.mode, y32_4.1.data⟩ : Rectoref14File) (⟨y38_6.1.path, y38_6.1.mode, y38_6.1.data⟩ : Rectoref14File) a_4 b_5 ey73_15) rfl (fun _ _ => rfl)) ?_
  refine Zm ?_
  refine Zu (q_extract rfl rfl) ?_
  refine Zu (q_extract rfl rfl) ?_
  refine VL.alloc (cs := [str [], i64 0, str []]) (by kernel_rfl) (by decide) fun b21_16 => ?_
  refine Zv (vc := [str y73_15.1.path, i64 y73_15.1.mode, str y73_15.1.data]) (cs' := [str y73_15.1.path, i64 y73_15.1.mode, str y73_15.1.data]) rfl gsz45 ?_
  refine Zy ?_
  refine VC.keep [12, 21, 22] rfl ?_
  refine Zq (Zr ?_)
  refine Zu (q_fes gagg45 rfl rfl) ?_
  refine Zm ?_
  refine Zv (vc := [str y73_15.1.path, i64 y73_15.1.mode, str y73_15.1.data]) (cs' := [str y73_15.1.path, i64 y73_15.1.mode, str y73_15.1.data]) rfl gsz45 ?_
  refine Zy ?_
  cases hS
  exact VC.ret (finG (vs := [.agg #[str y73_15.1.path, i64 y73_15.1.mode, str y73_15.1.data], .bool true, .bool y73_15.2]) (.inr rfl) rfl (RVs.cell gagg45 rfl rfl Rd.blk (RVs.tmp rfl (RVs.tmp rfl (RVs.nil)))) () rfl trivial (by (try dsimp only); exact InM.out) (fun _ _ => trivial))
 refine Zq (Zr ?_)
 refine Zy ?_
 refine VC.keep [12, 17, 19, 20, 78] rfl ?_
 refine Zcb hS (fun h78 hS => ?_) (fun h78 hS => ?_)
 ·
  refine Zq (Zr ?_)
  refine Zu (q_fes gagg45 rfl rfl) ?_
  refine Zv (vc := [str y32_4.1.path, i64 y32_4.1.mode, str y32_4.1.data]) (cs' := [str y32_4.1.path, i64 y32_4.1.mode, str y32_4.1.data]) rfl gsz45 ?_
  refine Zy ?_
  cases hS
  exact VC.ret (finG (vs := [.agg #[str y32_4.1.path, i64 y32_4.1.mode, str y32_4.1.data], .bool true, .bool true]) (.inr rfl) rfl (RVs.cell gagg45 rfl rfl Rd.blk (RVs.tmp rfl (RVs.tmp rfl (RVs.nil)))) () rfl trivial (by (try dsimp only); exact InM.out) (fun _ _ => trivial))
 refine Zk ?_
 refine Zq (Zr ?_)
 refine Zu (q_fes gagg45 rfl rfl) ?_
 refine Zm ?_
 refine Zv (vc := [str y38_6.1.path, i64 y38_6.1.mode, str y38_6.1.data]) (cs' := [str y38_6.1.path, i64 y38_6.1.mode, str y38_6.1.data]) rfl gsz45 ?_
 refine Zy ?_
 cases hS
 exact VC.ret (finG (vs := [.agg #[str y38_6.1.path, i64 y38_6.1.mode, str y38_6.1.data], .bool y38_6.2, .bool true]) (.inr rfl) rfl (RVs.cell gagg45 rfl rfl Rd.blk (RVs.tmp rfl (RVs.tmp rfl (RVs.nil)))) () rfl trivial (by (try dsimp only); exact InM.out) (fun _ _ => trivial))
theorem r1_Parts_ct (p_0 : Str) {r : List Str} (hS : Sh.r1_Parts p_0 = some r) :
 Ct Tryz.prog 194 [str p_0] Mo.tt (Ow.emp) (X := Sv Str) (fun x => x.val) (fun x => r = x.l) (fun x => Mo.tt) (fun x => Sv.own x 9) := by
 refine Zo Tryz.func194 Tryz.ntmps194 fun c => ?_
 unfold Sh.r1_Parts at hS
 refine Zq (Zr ?_)
 refine Zy ?_
 refine Zq (Zq (Zr ?_))
 refine Zy ?_
 refine Zc hS (fun h6 hS => ?_) (fun h6 hS => ?_)
 ·
  refine Zq (Zr ?_)
  refine Zy ?_
  refine VC.nilO (⟨none, 0, []⟩ : Sv Str) 9 ⟨rfl, rfl⟩ ?_
  cases hS
  exact VC.ret (fin1 (.inr rfl) rfl rfl ⟨none, 0, []⟩ rfl rfl (by (try dsimp only); exact InM.out) (by (try dsimp only); exact EntO.out))
 refine Zk ?_
 refine Zq (Zr ?_)
 refine VL.litO (α := Str) (xs := [.const (str [])]) (vs := [str []]) [[]] Tryz.underlying82 glit9 (by decide) rfl rfl rfl rfl (by decide) (by decide) (fun s7_1 hs7_1 => ?_) (by decide)
 replace hS := lt_to hs7_1 hS
 refine Zy ?_
 refine Zq (Zq (Zr ?_))
 refine Zy ?_
 refine Zb ?_
 refine VC.iter (S := Sv Str × Int) (fun sg => (sg.1.l, sg.2)) (fun sg => [(0, str p_0), (3, sg.1.val), (4, i64 sg.2)]) (fun sg => Mo.tt) (fun sg => Ow.star (Sv.own sg.1 9) (Ow.emp)) (s7_1, 0) [0, 3, 4] hS rfl ?_
 clear hS
 rintro ⟨out3_3, i4_4⟩ m1 y1 hS hK1
 refine Zq (Zq (Zr ?_))
 refine Zy ?_
 refine Zu (q_slen Tryz.underlying9 rfl) ?_
 refine Zu (q_lss rfl rfl) ?_
 refine Zl ?_
 refine Zc hS (fun h11 hS => ?_) (fun h11 hS => ?_)
 ·
  refine Zk ?_
  refine VC.cutJ (S := Sv Str) (fun (out3_5 : Sv Str) => out3_5.l) (fun (out3_5 : Sv Str) => [(0, str p_0), (3, out3_5.val), (4, i64 i4_4)]) (fun (out3_5 : Sv Str) => Mo.tt) (fun (out3_5 : Sv Str) => Ow.star (Sv.own out3_5 9) (Ow.emp)) hS ?_ ?_
  ·
   clear hS
   intro k6 hS
   refine Zb (Zq (Zq (Zr ?_)))
   refine Zy ?_
   obtain ⟨z16_7, nz16_7, hz16_7, hS⟩ := at_s hS
   refine Zu (q_sidx Tryz.underlying9 rfl rfl nz16_7 hz16_7) ?_
   refine Zu (q_eql rfl rfl) ?_
   refine Zl ?_
   refine VC.keep [0, 3, 4, 17] rfl ?_
   refine Zc hS (fun h17 hS => ?_) (fun h17 hS => ?_)
   ·
    refine Zq (Zr ?_)
    refine Zm ?_
    refine VL.lit (α := Str) (xs := [.const (str [])]) (vs := [str []]) [[]] Tryz.underlying82 glit9 (by decide) rfl rfl rfl rfl (by decide) (fun _ _ _ _ => trivial) (by decide) (fun s19_8 hs19_8 => ?_) (by decide)
    replace hS := lt_to hs19_8 hS
    obtain ⟨b20, hS⟩ := gd_s hS
    refine VL.app (s := out3_3) (r := s19_8) Tryz.underlying82 gapp9 (by decide) rfl Fo.out (ap1 b20) (ap2 b20 (by decide)) (by decide) (fun s20_10 hs20_10 => ?_)
    replace hS := lt_to hs20_10 hS
    refine Zy ?_
    refine VC.exit_mt s20_10 [0, 3, 4] (fun _ _ h => h) hS rfl
   refine Zk ?_
   refine VC.draw [(0, true), (1, true), (2, true), (3, true), (4, true), (5, true), (6, true), (7, true), (8, true), (9, true), (10, true), (11, true), (12, true), (13, true), (14, true), (15, true), (16, true), (17, false)] mixed (by kernel_rfl) (by kernel_rfl) (by kernel_rfl) ?_
   refine Zw rfl (q_move rfl) ?_
   refine Zw rfl (q_move rfl) ?_
   refine Zw rfl (q_ln (s := out3_3) Tryz.underlying82 rfl) ?_
   obtain ⟨b24, hS⟩ := gd_s hS
   refine Zw rfl (q_sub rfl rfl b24) ?_
   refine Zw rfl (q_move rfl) ?_
   refine Zw rfl (q_move rfl) ?_
   refine Zw rfl (q_ln (s := out3_3) Tryz.underlying82 rfl) ?_
   obtain ⟨b28, hS⟩ := gd_s hS
   refine Zw rfl (q_sub rfl rfl b28) ?_
   obtain ⟨z29_12, nz29_12, hz29_12, hS⟩ := at_s hS
   refine Zw rfl (q_ixo (s := out3_3) Tryz.underlying82 gsz9 rfl rfl nz29_12 (lt_of_get nz29_12 hz29_12)) ?_
   refine Zw rfl (q_elo (s := out3_3) 9 gone9 rfl hz29_12 rfl) ?_
   refine Zw rfl (q_move rfl) ?_
   refine Zw rfl (q_move rfl) ?_
   refine Zw rfl (q_move rfl) ?_
   obtain ⟨b34, hS⟩ := gd_s hS
   refine Zw rfl (q_add rfl rfl b34) ?_
   obtain ⟨b35, hS⟩ := gd_s hS
   obtain ⟨y35_13, ey35_13, hS⟩ := lt_s hS
   refine Zw rfl (q_smidE Tryz.underlying9 rfl rfl rfl b35.1 b35.2.1 b35.2.2 ey35_13) ?_
   obtain ⟨b36, hS⟩ := gd_s hS
   obtain ⟨y36_14, ey36_14, hS⟩ := lt_s hS
   refine Zw rfl (q_catE rfl rfl b36 ey36_14) ?_
   obtain ⟨z37_15, nz37_15, hz37_15, hS⟩ := at_s hS
   refine Zw rfl (q_ixo (s := out3_3) Tryz.underlying82 gsz9 rfl rfl nz37_15 (lt_of_get nz37_15 hz37_15)) ?_
   refine VD.one rfl ?_
   refine VL.storeE (s := out3_3) (T := 9) (j := 0) (vc := [str y36_14]) (y36_14 : Str) (by decide) rfl rfl hz37_15 rfl gsz9 rfl rfl (Nat.le_of_ble_eq_true rfl) rfl (fun w16 hw16 haw16 hcw16 hvw16 hbw16 how16 => ?_)
   rw [← hvw16]
   replace hS := lt_to hw16 hS
   refine VL.back (D' := []) (by kernel_rfl) (Pend.nil) ?_
   refine VD.mt w16 [0, 3, 4] (fun _ _ h => h) hS rfl
  clear hS
  rintro out3_5 hS
  refine Zr ?_
  refine Zm ?_
  obtain ⟨b13, hS⟩ := gd_s hS
  refine Zu (q_add rfl rfl b13) ?_
  refine Za ?_
  refine VL.rnd (out3_5, (i4_4 + 1)) [0, 3, 4] (fun _ _ h => h) (go2 hS hK1) rfl
 replace hS := up2 hS hK1
 refine Zx ?_
 refine Zq (Zr ?_)
 refine Zy ?_
 cases hS
 exact VC.ret (fin1 (.inr rfl) rfl rfl out3_3 rfl rfl (by (try dsimp only); exact InM.out) (by (try dsimp only); exact EntO.out))
theorem r1_good_ct (c_0 : Int) {r : Bool} (hS : Sh.r1_good c_0 = some r) :
 Ct Tryz.prog 195 [.int .u8 c_0] Mo.tt (Ow.emp) (X := Unit) (fun _ => .bool r) (fun _ => True) (fun _ => Mo.tt) (fun _ => Ow.emp) := by
 refine Zo Tryz.func195 Tryz.ntmps195 fun c => ?_
 unfold Sh.r1_good at hS
 refine Zq (Zr ?_)
 refine Zy ?_
 refine Zq (Zr ?_)
 refine Zm ?_
 refine Zu (q_geq rfl rfl) ?_
 refine Zm ?_
 refine Zsp 5 hS (fun h5 hS => ?_) (fun h5 hS => ?_)
 ·
  refine Zg ?_
  refine Zh (q_leq rfl rfl) ?_
  refine Zy ?_
  refine Zsp 9 hS (fun h9 hS => ?_) (fun h9 hS => ?_)
  ·
   refine Zy ?_
   refine VL.gu rfl rfl (by decide) ?_
   refine VL.gu rfl rfl (by decide) ?_
   refine Zy ?_
   refine VC.keep [2] rfl ?_
   cases hS
   exact Ze
  refine Zg ?_
  refine Zh (q_geq rfl rfl) ?_
  refine Zg ?_
  refine Zsp 12 hS (fun h12 hS => ?_) (fun h12 hS => ?_)
  ·
   refine Zg ?_
   refine Zh (q_leq rfl rfl) ?_
   refine Zh (q_pick_t rfl rfl) ?_
   refine Zy ?_
   refine Zsp 17 hS (fun h17 hS => ?_) (fun h17 hS => ?_)
   ·
    refine Zy ?_
    refine VC.keep [2] rfl ?_
    cases hS
    exact Ze
   refine Zg ?_
   refine Zh (q_eql rfl rfl) ?_
   refine Zy ?_
   refine Zsp 21 hS (fun h21 hS => ?_) (fun h21 hS => ?_)
   ·
    refine Zy ?_
    refine VC.keep [2] rfl ?_
    cases hS
    exact Ze
   refine Zg ?_
   refine Zh (q_eql rfl rfl) ?_
   refine Zy ?_
   refine Zsp 25 hS (fun h25 hS => ?_) (fun h25 hS => ?_)
   ·
    refine Zy ?_
    refine VC.keep [2] rfl ?_
    cases hS
    exact Ze
   refine Zg ?_
   refine Zh (q_eql rfl rfl) ?_
   refine Zy ?_
   refine VC.keep [2] rfl ?_
   cases hS
   exact Ze
  refine Zy ?_
  refine Zh (q_pick_f rfl rfl) ?_
  refine Zy ?_
  refine Zh (q_eql rfl rfl) ?_
  refine Zy ?_
  refine Zsp 21 hS (fun h21 hS => ?_) (fun h21 hS => ?_)
  ·
   refine Zy ?_
   refine VC.keep [2] rfl ?_
   cases hS
   exact Ze
  refine Zg ?_
  refine Zh (q_eql rfl rfl) ?_
  refine Zy ?_
  refine Zsp 25 hS (fun h25 hS => ?_) (fun h25 hS => ?_)
  ·
   refine Zy ?_
   refine VC.keep [2] rfl ?_
   cases hS
   exact Ze
  refine Zg ?_
  refine Zh (q_eql rfl rfl) ?_
  refine Zy ?_
  refine VC.keep [2] rfl ?_
  cases hS
  exact Ze
 refine Zy ?_
 refine Zh (q_geq rfl rfl) ?_
 refine Zg ?_
 refine Zsp 12 hS (fun h12 hS => ?_) (fun h12 hS => ?_)
 ·
  refine Zg ?_
  refine Zh (q_leq rfl rfl) ?_
  refine Zh (q_pick_t rfl rfl) ?_
  refine Zy ?_
  refine Zsp 17 hS (fun h17 hS => ?_) (fun h17 hS => ?_)
  ·
   refine Zy ?_
   refine VC.keep [2] rfl ?_
   cases hS
   exact Ze
  refine Zg ?_
  refine Zh (q_eql rfl rfl) ?_
  refine Zy ?_
  refine Zsp 21 hS (fun h21 hS => ?_) (fun h21 hS => ?_)
  ·
   refine Zy ?_
   refine VC.keep [2] rfl ?_
   cases hS
   exact Ze
  refine Zg ?_
  refine Zh (q_eql rfl rfl) ?_
  refine Zy ?_
  refine Zsp 25 hS (fun h25 hS => ?_) (fun h25 hS => ?_)
  ·
   refine Zy ?_
   refine VC.keep [2] rfl ?_
   cases hS
   exact Ze
  refine Zg ?_
  refine Zh (q_eql rfl rfl) ?_
  refine Zy ?_
  refine VC.keep [2] rfl ?_
  cases hS
  exact Ze
 refine Zy ?_
 refine Zh (q_pick_f rfl rfl) ?_
 refine Zy ?_
 refine Zh (q_eql rfl rfl) ?_
 refine Zy ?_
 refine Zsp 21 hS (fun h21 hS => ?_) (fun h21 hS => ?_)
 ·
  refine Zy ?_
  refine VC.keep [2] rfl ?_
  cases hS
  exact Ze
 refine Zg ?_
 refine Zh (q_eql rfl rfl) ?_
 refine Zy ?_
 refine Zsp 25 hS (fun h25 hS => ?_) (fun h25 hS => ?_)
 ·
  refine Zy ?_
  refine VC.keep [2] rfl ?_
  cases hS
  exact Ze
 refine Zg ?_
 refine Zh (q_eql rfl rfl) ?_
 refine Zy ?_
 refine VC.keep [2] rfl ?_
 cases hS
 exact Ze
theorem r1_Check_ct (p_0 : Str) {r : Int} (hS : Sh.r1_Check p_0 = some r) :
 Ct Tryz.prog 141 [str p_0] Mo.tt (Ow.emp) (X := Unit) (fun _ => i64 r) (fun _ => True) (fun _ => Mo.tt) (fun _ => Ow.emp) := by
 refine Zo Tryz.func141 Tryz.ntmps141 fun c => ?_
 unfold Sh.r1_Check at hS
 refine Zq (Zr ?_)
 refine Zy ?_
 refine Zq (Zq (Zr ?_))
 refine Zm ?_
 refine Zu (q_slen Tryz.underlying9 rfl) ?_
 refine Zu (q_gtr rfl rfl) ?_
 refine Zl ?_
 refine Zc hS (fun h8 hS => ?_) (fun h8 hS => ?_)
 ·
  refine Zq (Zr ?_)
  refine Zy ?_
  cases hS
  exact Ze
 refine Zk ?_
 refine Zq (Zr ?_)
 refine Zm ?_
 obtain ⟨y10_1, ey10_1, hS⟩ := bd_s hS
 refine VL.callO (r1_Parts_ct p_0 ey10_1) rfl (by decide) ?_
 rintro q10_1_0 rfl
 try dsimp only
 refine Zy ?_
 refine Zq (Zq (Zr ?_))
 refine Zm ?_
 refine Zu (q_ln (s := q10_1_0) Tryz.underlying82 rfl) ?_
 refine Zu (q_eql rfl rfl) ?_
 refine Zl ?_
 refine VC.keep [3, 13] rfl ?_
 refine Zc hS (fun h13 hS => ?_) (fun h13 hS => ?_)
 ·
  refine Zq (Zr ?_)
  refine Zy ?_
  cases hS
  exact Ze
 refine Zk ?_
 refine Zq (Zq (Zr ?_))
 refine Zy ?_
 refine Zb ?_
 refine VC.iter (S := Int) (fun (i4_2 : Int) => i4_2) (fun (i4_2 : Int) => [(3, q10_1_0.val), (4, i64 i4_2)]) (fun (i4_2 : Int) => Mo.tt) (fun (i4_2 : Int) => Ow.star (Sv.own q10_1_0 9) (Ow.emp)) 0 [3, 4] hS rfl ?_
 clear hS
 rintro i4_2 m1 y1 hS hK1
 refine Zq (Zq (Zr ?_))
 refine Zy ?_
 refine Zu (q_ln (s := q10_1_0) Tryz.underlying82 rfl) ?_
 refine Zu (q_lss rfl rfl) ?_
 refine Zl ?_
 refine Zc hS (fun h17 hS => ?_) (fun h17 hS => ?_)
 ·
  refine Zk ?_
  refine VC.cutJ (S := Unit) (fun (_ : Unit) => ()) (fun (_ : Unit) => [(3, q10_1_0.val), (4, i64 i4_2)]) (fun (_ : Unit) => Mo.tt) (fun (_ : Unit) => Ow.star (Sv.own q10_1_0 9) (Ow.emp)) hS ?_ ?_
  ·
   clear hS
   intro k3 hS
   refine Zb (Zq ?_)
   refine VC.cutJ (S := Bool) (fun (x38_4 : Bool) => x38_4) (fun (x38_4 : Bool) => [(3, q10_1_0.val), (4, i64 i4_2), (38, .bool x38_4)]) (fun (x38_4 : Bool) => Mo.tt) (fun (x38_4 : Bool) => Ow.star (Sv.own q10_1_0 9) (Ow.emp)) hS ?_ ?_
   ·
    clear hS
    intro k5 hS
    refine Zr ?_
    refine Zy ?_
    obtain ⟨z22_6, nz22_6, hz22_6, hS⟩ := at_s hS
    refine Zu (q_ixo (s := q10_1_0) Tryz.underlying82 gsz9 rfl rfl nz22_6 (lt_of_get nz22_6 hz22_6)) ?_
    refine Zu (q_elo (s := q10_1_0) 9 gone9 rfl hz22_6 rfl) ?_
    refine Zy ?_
    refine Zsp 25 hS (fun h25 hS => ?_) (fun h25 hS => ?_)
    ·
     refine Zy ?_
     refine VL.mt true [3, 4, 38] (fun _ _ h => h) hS rfl
    refine Zy ?_
    obtain ⟨z28_7, nz28_7, hz28_7, hS⟩ := at_s hS
    refine Zh (q_ixo (s := q10_1_0) Tryz.underlying82 gsz9 rfl rfl nz28_7 (lt_of_get nz28_7 hz28_7)) ?_
    refine Zh (q_elo (s := q10_1_0) 9 gone9 rfl hz28_7 rfl) ?_
    refine Zh (q_seq rfl rfl) ?_
    refine Zy ?_
    refine Zsp 32 hS (fun h32 hS => ?_) (fun h32 hS => ?_)
    ·
     refine Zy ?_
     refine VL.mt true [3, 4, 38] (fun _ _ h => h) hS rfl
    refine Zy ?_
    obtain ⟨z35_8, nz35_8, hz35_8, hS⟩ := at_s hS
    refine Zh (q_ixo (s := q10_1_0) Tryz.underlying82 gsz9 rfl rfl nz35_8 (lt_of_get nz35_8 hz35_8)) ?_
    refine Zh (q_elo (s := q10_1_0) 9 gone9 rfl hz35_8 rfl) ?_
    refine Zh (q_seq rfl rfl) ?_
    refine Zf ?_
    refine VL.mt (decide (z35_8 = [46, 46])) [3, 4, 38] (fun _ _ h => h) hS rfl
   clear hS
   rintro x38_4 hS
   refine Zcb hS (fun h38 hS => ?_) (fun h38 hS => ?_)
   ·
    refine Zq (Zr ?_)
    refine Zy ?_
    replace hS := up2 hS hK1
    cases hS
    exact Ze
   refine Zk ?_
   refine Zq (Zr ?_)
   refine Zy ?_
   refine Zb ?_
   refine VC.iter (S := Int) (fun (k5_9 : Int) => k5_9) (fun (k5_9 : Int) => [(3, q10_1_0.val), (4, i64 i4_2), (5, i64 k5_9)]) (fun (k5_9 : Int) => Mo.tt) (fun (k5_9 : Int) => Ow.star (Sv.own q10_1_0 9) (Ow.emp)) 0 [3, 4, 5] hS rfl ?_
   clear hS
   rintro k5_9 m2 y2 hS hK2
   refine Zq (Zq (Zr ?_))
   refine Zy ?_
   obtain ⟨z42_10, nz42_10, hz42_10, hS⟩ := at_s hS
   refine Zu (q_ixo (s := q10_1_0) Tryz.underlying82 gsz9 rfl rfl nz42_10 (lt_of_get nz42_10 hz42_10)) ?_
   refine Zu (q_elo (s := q10_1_0) 9 gone9 rfl hz42_10 rfl) ?_
   refine Zu (q_slen Tryz.underlying9 rfl) ?_
   refine Zu (q_lss rfl rfl) ?_
   refine Zl ?_
   refine Zc hS (fun h45 hS => ?_) (fun h45 hS => ?_)
   ·
    refine Zk ?_
    refine Zq (Zb (Zq (Zr ?_)))
    refine Zy ?_
    obtain ⟨z50_11, nz50_11, hz50_11, hS⟩ := at_s hS
    refine Zu (q_ixo (s := q10_1_0) Tryz.underlying82 gsz9 rfl rfl nz50_11 (lt_of_get nz50_11 hz50_11)) ?_
    refine Zu (q_elo (s := q10_1_0) 9 gone9 rfl hz50_11 rfl) ?_
    refine Zm ?_
    obtain ⟨z53_12, nz53_12, hz53_12, hS⟩ := at_s hS
    refine Zu (q_sidx Tryz.underlying9 rfl rfl nz53_12 hz53_12) ?_
    obtain ⟨y54_13, ey54_13, hS⟩ := bd_s hS
    refine Zu (q_call (r1_good_ct (z53_12.toNat : Int) ey54_13) rfl (fun _ _ => rfl)) ?_
    refine Zu (q_not rfl) ?_
    refine Zl ?_
    refine VC.keep [3, 4, 5, 55] rfl ?_
    refine Zcb hS (fun h55 hS => ?_) (fun h55 hS => ?_)
    ·
     refine Zq (Zr ?_)
     refine Zy ?_
     replace hS := up2 hS hK2
     replace hS := up2 hS hK1
     cases hS
     exact Ze
    refine Zk ?_
    refine Zr ?_
    refine Zm ?_
    obtain ⟨b47, hS⟩ := gd_s hS
    refine Zu (q_add rfl rfl b47) ?_
    refine Za ?_
    refine VL.rnd (k5_9 + 1) [3, 4, 5] (fun _ _ h => h) (go2 hS hK2) rfl
   replace hS := up2 hS hK2
   refine VC.exit_mt () [3, 4] (fun _ _ h => h) hS rfl
  clear hS
  rintro _ hS
  refine Zr ?_
  refine Zm ?_
  obtain ⟨b19, hS⟩ := gd_s hS
  refine Zu (q_add rfl rfl b19) ?_
  refine Za ?_
  refine VL.rnd (i4_2 + 1) [3, 4] (fun _ _ h => h) (go2 hS hK1) rfl
 replace hS := up2 hS hK1
 refine Zx ?_
 refine Zq (Zr ?_)
 refine Zy ?_
 cases hS
 exact Ze
theorem r14_Mode_ct (m_0 : Int) {r : Bool} (hS : Sh.r14_Mode m_0 = some r) :
 Ct Tryz.prog 142 [i64 m_0] Mo.tt (Ow.emp) (X := Unit) (fun _ => .bool r) (fun _ => True) (fun _ => Mo.tt) (fun _ => Ow.emp) := by
 refine Zo Tryz.func142 Tryz.ntmps142 fun c => ?_
 unfold Sh.r14_Mode at hS
 refine Zq (Zr ?_)
 refine Zy ?_
 refine Zq (Zr ?_)
 refine Zm ?_
 refine Zu (q_eql rfl rfl) ?_
 refine Zm ?_
 refine Zsp 5 hS (fun h5 hS => ?_) (fun h5 hS => ?_)
 ·
  refine Zy ?_
  cases hS
  exact Ze
 refine Zg ?_
 refine Zh (q_eql rfl rfl) ?_
 refine Zy ?_
 cases hS
 exact Ze
theorem r14_Cause_ct (f_0 : Rectoref14File) {r : Int} (hS : Sh.r14_Cause f_0 = some r) :
 Ct Tryz.prog 71 [.agg #[str f_0.path, i64 f_0.mode, str f_0.data]] Mo.tt (Ow.emp) (X := Unit) (fun _ => i64 r) (fun _ => True) (fun _ => Mo.tt) (fun _ => Ow.emp) := by
 refine Zo Tryz.func71 Tryz.ntmps71 fun c => ?_
 unfold Sh.r14_Cause at hS
 refine Zq (Zr ?_)
 refine VL.box (cs := [str f_0.path, i64 f_0.mode, str f_0.data]) rfl rfl (by decide) fun b1_1 => ?_
 refine Zy ?_
 refine Zq (Zr ?_)
 refine Zu (q_field gfa45_0 rfl) ?_
 refine Zu (q_fe gone9 rfl rfl) ?_
 obtain ⟨y6_2, ey6_2, hS⟩ := bd_s hS
 refine Zu (q_call (r1_Check_ct f_0.path ey6_2) rfl (fun _ _ => rfl)) ?_
 refine Zy ?_
 refine Zq (Zb (Zq (Zr ?_)))
 refine Zm ?_
 refine Zu (q_neq rfl rfl) ?_
 refine Zy ?_
 refine Zcn hS (fun h7 hS => ?_) (fun h7 hS => ?_)
 ·
  refine Zq (Zr ?_)
  refine Zy ?_
  refine VC.keep [2] rfl ?_
  cases hS
  exact Ze
 refine Zq (Zr ?_)
 refine Zu (q_field gfa45_1 rfl) ?_
 refine Zu (q_fe gone3 rfl rfl) ?_
 obtain ⟨y14_3, ey14_3, hS⟩ := bd_s hS
 refine Zu (q_call (r14_Mode_ct f_0.mode ey14_3) rfl (fun _ _ => rfl)) ?_
 refine Zu (q_not rfl) ?_
 refine Zy ?_
 refine VC.keep [1, 11] rfl ?_
 refine Zcb hS (fun h11 hS => ?_) (fun h11 hS => ?_)
 ·
  refine Zq (Zr ?_)
  refine Zy ?_
  cases hS
  exact Ze
 refine Zq (Zr ?_)
 refine Zu (q_field gfa45_2 rfl) ?_
 refine Zu (q_fe gone9 rfl rfl) ?_
 refine Zu (q_slen Tryz.underlying9 rfl) ?_
 refine Zu (q_gtr rfl rfl) ?_
 refine Zy ?_
 refine Zc hS (fun h16 hS => ?_) (fun h16 hS => ?_)
 ·
  refine Zq (Zr ?_)
  refine Zy ?_
  cases hS
  exact Ze
 refine Zk ?_
 refine Zq (Zr ?_)
 refine Zy ?_
 cases hS
 exact Ze
theorem r1_Under_ct (p_0 : Str) (dir_1 : Str) {r : Bool} (hS : Sh.r1_Under p_0 dir_1 = some r) :
 Ct Tryz.prog 143 [str p_0, str dir_1] Mo.tt (Ow.emp) (X := Unit) (fun _ => .bool r) (fun _ => True) (fun _ => Mo.tt) (fun _ => Ow.emp) := by
 refine Zo Tryz.func143 Tryz.ntmps143 fun c => ?_
 unfold Sh.r1_Under at hS
 refine Zq (Zr ?_)
 refine Zy ?_
 refine Zq (Zq (Zr ?_))
 refine Zy ?_
 refine Zc hS (fun h6 hS => ?_) (fun h6 hS => ?_)
 ·
  refine Zq (Zr ?_)
  refine Zm ?_
  refine Zu (q_sne rfl rfl) ?_
  refine Zy ?_
  cases hS
  exact Ze
 refine Zk ?_
 refine Zq (Zr ?_)
 refine Zm ?_
 refine Zu (q_slen Tryz.underlying9 rfl) ?_
 refine Zm ?_
 refine Zu (q_slen Tryz.underlying9 rfl) ?_
 obtain ⟨b13, hS⟩ := gd_s hS
 refine Zu (q_add rfl rfl b13) ?_
 refine Zu (q_gtr rfl rfl) ?_
 refine Zm ?_
 refine Zsp 15 hS (fun h15 hS => ?_) (fun h15 hS => ?_)
 ·
  refine Zy ?_
  refine Zh (q_slen Tryz.underlying9 rfl) ?_
  obtain ⟨b19, hS⟩ := gd_s hS
  obtain ⟨y19_1, ey19_1, hS⟩ := lt_s hS
  refine Zh (q_stoE Tryz.underlying9 rfl rfl b19.1 b19.2 ey19_1) ?_
  refine Zg ?_
  refine Zh (q_seq rfl rfl) ?_
  refine Zy ?_
  refine Zsp 23 hS (fun h23 hS => ?_) (fun h23 hS => ?_)
  ·
   refine Zy ?_
   refine Zh (q_slen Tryz.underlying9 rfl) ?_
   obtain ⟨z27_2, nz27_2, hz27_2, hS⟩ := at_s hS
   refine Zh (q_sidx Tryz.underlying9 rfl rfl nz27_2 hz27_2) ?_
   refine Zh (q_eql rfl rfl) ?_
   refine Zy ?_
   refine VC.keep [4] rfl ?_
   cases hS
   exact Ze
  refine Zy ?_
  refine VC.keep [4] rfl ?_
  cases hS
  exact Ze
 refine Zy ?_
 refine VC.keep [4] rfl ?_
 cases hS
 exact Ze
theorem r1_Clash_ct (a_0 : Str) (b_1 : Str) {r : Bool} (hS : Sh.r1_Clash a_0 b_1 = some r) :
 Ct Tryz.prog 72 [str a_0, str b_1] Mo.tt (Ow.emp) (X := Unit) (fun _ => .bool r) (fun _ => True) (fun _ => Mo.tt) (fun _ => Ow.emp) := by
 refine Zo Tryz.func72 Tryz.ntmps72 fun c => ?_
 unfold Sh.r1_Clash at hS
 refine Zq (Zr ?_)
 refine Zy ?_
 refine Zq (Zr ?_)
 refine Zm ?_
 refine Zu (q_sne rfl rfl) ?_
 refine Zm ?_
 refine Zspn 7 hS (fun h7 hS => ?_) (fun h7 hS => ?_)
 ·
  refine Zg ?_
  refine Zh (q_sne rfl rfl) ?_
  refine Zy ?_
  refine Zspn 11 hS (fun h11 hS => ?_) (fun h11 hS => ?_)
  ·
   refine Zy ?_
   obtain ⟨y14_1, ey14_1, hS⟩ := bd_s hS
   refine Zh (q_call (r1_Under_ct a_0 b_1 ey14_1) rfl (fun _ _ => rfl)) ?_
   refine Zg ?_
   refine Zspb 15 hS (fun h15 hS => ?_) (fun h15 hS => ?_)
   ·
    refine Zy ?_
    refine Zh (q_pick_t rfl rfl) ?_
    refine Zy ?_
    refine VC.keep [4] rfl ?_
    cases hS
    exact Ze
   refine Zy ?_
   obtain ⟨y18_2, ey18_2, hS⟩ := bd_s hS
   refine Zh (q_call (r1_Under_ct b_1 a_0 ey18_2) rfl (fun _ _ => rfl)) ?_
   refine Zh (q_pick_f rfl rfl) ?_
   refine Zy ?_
   refine VC.keep [4] rfl ?_
   cases hS
   exact Ze
  refine Zy ?_
  refine VL.gu rfl rfl (by decide) ?_
  refine VL.gu rfl rfl (by decide) ?_
  refine VL.gu rfl rfl (by decide) ?_
  refine Zy ?_
  refine VC.keep [4] rfl ?_
  cases hS
  exact Ze
 refine Zy ?_
 refine VL.gu rfl rfl (by decide) ?_
 refine VL.gu rfl rfl (by decide) ?_
 refine VL.gu rfl rfl (by decide) ?_
 refine Zy ?_
 refine VC.keep [4] rfl ?_
 cases hS
 exact Ze
theorem r14_Check_ct (r_0 : Sv Rectoref14File) {r : Rectoref3WrongP} (hS : Sh.r14_Check r_0.l = some r) :
 Ct Tryz.prog 21 [r_0.val] r_0.ok (Ow.emp) (X := Rectoref3Wrong) (fun x => .agg (Dat.enc x).toArray) (fun x => r = x.pl) (fun x => x.m) (fun x => Ow.emp) := by
 refine Zo Tryz.func21 Tryz.ntmps21 fun c => ?_
 unfold Sh.r14_Check at hS
 refine Zq (Zr ?_)
 refine VL.alloc (cs := [.slice none 0 0, i64 0]) (by kernel_rfl) (by decide) fun b2_1 => ?_
 refine Zl ?_
 refine Zq (Zq (Zr ?_))
 refine Zm ?_
 refine Zu (q_ln (s := r_0) Tryz.underlying48 rfl) ?_
 refine Zu (q_gtr rfl rfl) ?_
 refine Zl ?_
 refine Zc hS (fun h8 hS => ?_) (fun h8 hS => ?_)
 ·
  refine Zq (Zr ?_)
  obtain ⟨y9_2, ey9_2, hS⟩ := bd_s hS
  refine VL.callF (r3_At_ct [102, 105, 108, 101] 64 4 ey9_2) rfl (by decide) ?_
  rintro q9_2_0 rfl
  try dsimp only
  refine Zv (vc := [q9_2_0.parts.val, i64 q9_2_0.err]) (cs' := [q9_2_0.parts.val, i64 q9_2_0.err]) rfl gsz54 ?_
  refine Zl ?_
  cases hS
  exact VC.ret (finG (vs := [.agg #[q9_2_0.parts.val, i64 q9_2_0.err]]) (.inr rfl) rfl (RVs.cell gagg54 rfl rfl Rd.blk (RVs.nil)) ⟨q9_2_0.parts, q9_2_0.err⟩ rfl rfl (by (try dsimp only); exact InM.out) (fun _ _ => trivial))
 refine Zk ?_
 refine Zq (Zq (Zr ?_))
 refine Zy ?_
 refine Zb ?_
 refine VC.iter (S := Int) (fun (i3_3 : Int) => i3_3) (fun (i3_3 : Int) => [(0, r_0.val), (2, ptr b2_1 0), (3, i64 i3_3)]) (fun (i3_3 : Int) => Mo.tt) (fun (i3_3 : Int) => Ow.star (Blk b2_1 [.slice none 0 0, i64 0] 54) (Ow.emp)) 0 [0, 2, 3] hS rfl ?_
 clear hS
 rintro i3_3 m1 y1 hS hK1
 refine Zq (Zq (Zr ?_))
 refine Zy ?_
 refine Zu (q_ln (s := r_0) Tryz.underlying48 rfl) ?_
 refine Zu (q_lss rfl rfl) ?_
 refine Zl ?_
 refine Zc hS (fun h13 hS => ?_) (fun h13 hS => ?_)
 ·
  refine Zk ?_
  refine Zq (Zb (Zq (Zr ?_)))
  refine Zy ?_
  obtain ⟨z18_4, nz18_4, hz18_4, hS⟩ := at_s hS
  refine Zu (q_ixm (s := r_0) Tryz.underlying48 gsz45 rfl rfl nz18_4 (lt_of_get nz18_4 hz18_4)) ?_
  refine Zu (q_els (s := r_0) gagg45 rfl rfl hz18_4) ?_
  obtain ⟨y20_5, ey20_5, hS⟩ := bd_s hS
  refine Zu (q_call (r14_Cause_ct (⟨z18_4.path, z18_4.mode, z18_4.data⟩ : Rectoref14File) ey20_5) rfl (fun _ _ => rfl)) ?_
  refine Zy ?_
  refine VC.keep [0, 2, 3, 4] rfl ?_
  refine VC.cutJ (S := Int) (fun (e4_6 : Int) => e4_6) (fun (e4_6 : Int) => [(0, r_0.val), (2, ptr b2_1 0), (3, i64 i3_3), (4, i64 e4_6)]) (fun (e4_6 : Int) => Mo.tt) (fun (e4_6 : Int) => Ow.star (Blk b2_1 [.slice none 0 0, i64 0] 54) (Ow.emp)) hS ?_ ?_
  ·
   clear hS
   intro k7 hS
   refine VC.cutJ (S := Bool) (fun (x40_8 : Bool) => x40_8) (fun (x40_8 : Bool) => [(0, r_0.val), (2, ptr b2_1 0), (3, i64 i3_3), (4, i64 y20_5), (40, .bool x40_8)]) (fun (x40_8 : Bool) => Mo.tt) (fun (x40_8 : Bool) => Ow.star (Blk b2_1 [.slice none 0 0, i64 0] 54) (Ow.emp)) hS ?_ ?_
   ·
    clear hS
    intro k9 hS
    refine VC.draw ((List.range 20).map fun k => (k, true)) mixed (by kernel_rfl) (by kernel_rfl) (by kernel_rfl) ?_
    refine Zw rfl (q_move rfl) ?_
    refine Zw rfl (q_eql rfl rfl) ?_
    refine Zw rfl (q_move rfl) ?_
    refine VD.split_dec 23 rfl (fun h23 => ?_) (fun h23 => ?_)
    ·
     replace hS := it_t h23 hS
     refine Zi rfl (q_move rfl) ?_
     refine Zi rfl (q_gtr rfl rfl) ?_
     refine Zw rfl (q_pick_t rfl rfl) ?_
     refine Zw rfl (q_move rfl) ?_
     refine VD.split_dec 27 rfl (fun h27 => ?_) (fun h27 => ?_)
     ·
      replace hS := it_t h27 hS
      refine Zi rfl (q_move rfl) ?_
      refine Zi rfl (q_move rfl) ?_
      obtain ⟨b30, hS⟩ := gd_s hS
      refine Zi rfl (q_sub rfl rfl b30) ?_
      obtain ⟨z31_10, nz31_10, hz31_10, hS⟩ := at_s hS
      refine Zi rfl (q_ixm (s := r_0) Tryz.underlying48 gsz45 rfl rfl nz31_10 (lt_of_get nz31_10 hz31_10)) ?_
      refine Zi rfl (q_field gfa45_0 rfl) ?_
      refine Zi rfl (q_elf (s := r_0) gone9 rfl hz31_10 rfl) ?_
      refine Zi rfl (q_move rfl) ?_
      refine Zi rfl (q_move rfl) ?_
      obtain ⟨z36_11, nz36_11, hz36_11, hS⟩ := at_s hS
      refine Zi rfl (q_ixm (s := r_0) Tryz.underlying48 gsz45 rfl rfl nz36_11 (lt_of_get nz36_11 hz36_11)) ?_
      refine Zi rfl (q_field gfa45_0 rfl) ?_
      refine Zi rfl (q_elf (s := r_0) gone9 rfl hz36_11 rfl) ?_
      refine Zi rfl (q_sgeq rfl rfl) ?_
      refine Zw rfl (q_pick_t rfl rfl) ?_
      refine VD.mt (!Op.bytesLess z31_10.path z36_11.path) [0, 2, 3, 4, 40] (fun _ _ h => h) hS rfl
     replace hS := it_f h27 hS
     refine Zd ?_
     refine Zd ?_
     refine Zd ?_
     refine Zd ?_
     refine Zd ?_
     refine Zd ?_
     refine Zd ?_
     refine Zd ?_
     refine Zd ?_
     refine Zd ?_
     refine Zd ?_
     refine Zd ?_
     refine Zw rfl (q_pick_f rfl rfl) ?_
     refine VD.mt false [0, 2, 3, 4, 40] (fun _ _ h => h) hS rfl
    replace hS := it_f h23 hS
    refine Zd ?_
    refine Zd ?_
    refine Zw rfl (q_pick_f rfl rfl) ?_
    refine Zw rfl (q_move rfl) ?_
    refine Zd ?_
    refine Zd ?_
    refine Zd ?_
    refine Zd ?_
    refine Zd ?_
    refine Zd ?_
    refine Zd ?_
    refine Zd ?_
    refine Zd ?_
    refine Zd ?_
    refine Zd ?_
    refine Zd ?_
    refine Zw rfl (q_pick_f rfl rfl) ?_
    refine VD.mt false [0, 2, 3, 4, 40] (fun _ _ h => h) hS rfl
   clear hS
   rintro x40_8 hS
   refine Zcb hS (fun h40 hS => ?_) (fun h40 hS => ?_)
   ·
    refine Zr ?_
    refine Za ?_
    refine VL.mt 6 [0, 2, 3, 4] (fun _ _ h => h) hS rfl
   refine VC.skip_mt y20_5 [0, 2, 3, 4] (fun _ _ h => h) hS rfl
  clear hS
  rintro e4_6 hS
  refine VC.cutJ (S := Int) (fun (e4_12 : Int) => e4_12) (fun (e4_12 : Int) => [(0, r_0.val), (2, ptr b2_1 0), (3, i64 i3_3), (4, i64 e4_12)]) (fun (e4_12 : Int) => Mo.tt) (fun (e4_12 : Int) => Ow.star (Blk b2_1 [.slice none 0 0, i64 0] 54) (Ow.emp)) hS ?_ ?_
  ·
   clear hS
   intro k13 hS
   refine Zq (Zr ?_)
   refine Zy ?_
   refine Zb ?_
   refine VC.iter (S := Int × Int) (fun sg => (sg.1, sg.2)) (fun sg => [(0, r_0.val), (2, ptr b2_1 0), (3, i64 i3_3), (4, i64 sg.1), (5, i64 sg.2)]) (fun sg => Mo.tt) (fun sg => Ow.star (Blk b2_1 [.slice none 0 0, i64 0] 54) (Ow.emp)) (e4_6, 0) [0, 2, 3, 4, 5] hS rfl ?_
   clear hS
   rintro ⟨e4_14, k5_15⟩ m2 y2 hS hK2
   refine Zq (Zq (Zr ?_))
   refine Zy ?_
   refine Zu (q_lss rfl rfl) ?_
   refine Zm ?_
   refine Zsp 44 hS (fun h44 hS => ?_) (fun h44 hS => ?_)
   ·
    refine Zg ?_
    refine Zh (q_eql rfl rfl) ?_
    refine Zy ?_
    refine Zc hS (fun h47 hS => ?_) (fun h47 hS => ?_)
    ·
     refine Zk ?_
     refine VC.keep [0, 2, 3, 4, 5] rfl ?_
     refine VC.cutJ (S := Int) (fun (e4_16 : Int) => e4_16) (fun (e4_16 : Int) => [(0, r_0.val), (2, ptr b2_1 0), (3, i64 i3_3), (4, i64 e4_16), (5, i64 k5_15)]) (fun (e4_16 : Int) => Mo.tt) (fun (e4_16 : Int) => Ow.star (Blk b2_1 [.slice none 0 0, i64 0] 54) (Ow.emp)) hS ?_ ?_
     ·
      clear hS
      intro k17 hS
      refine Zb (Zq ?_)
      refine VC.draw ((List.range 11).map fun k => (k, true)) mixed (by kernel_rfl) (by kernel_rfl) (by kernel_rfl) ?_
      refine Zw rfl (q_move rfl) ?_
      refine Zw rfl (q_move rfl) ?_
      obtain ⟨z52_18, nz52_18, hz52_18, hS⟩ := at_s hS
      refine Zw rfl (q_ixm (s := r_0) Tryz.underlying48 gsz45 rfl rfl nz52_18 (lt_of_get nz52_18 hz52_18)) ?_
      refine Zw rfl (q_field gfa45_0 rfl) ?_
      refine Zw rfl (q_elf (s := r_0) gone9 rfl hz52_18 rfl) ?_
      refine Zw rfl (q_move rfl) ?_
      refine Zw rfl (q_move rfl) ?_
      obtain ⟨z57_19, nz57_19, hz57_19, hS⟩ := at_s hS
      refine Zw rfl (q_ixm (s := r_0) Tryz.underlying48 gsz45 rfl rfl nz57_19 (lt_of_get nz57_19 hz57_19)) ?_
      refine Zw rfl (q_field gfa45_0 rfl) ?_
      refine Zw rfl (q_elf (s := r_0) gone9 rfl hz57_19 rfl) ?_
      obtain ⟨y60_20, ey60_20, hS⟩ := bd_s hS
      refine Zw rfl (q_call (r1_Clash_ct z52_18.path z57_19.path ey60_20) rfl (fun _ _ => rfl)) ?_
      refine VD.to (fun _ _ h => h) ?_
      refine VC.keep [0, 2, 3, 4, 5, 60] rfl ?_
      refine Zcb hS (fun h60 hS => ?_) (fun h60 hS => ?_)
      ·
       refine Zr ?_
       refine Za ?_
       refine VL.mt 11 [0, 2, 3, 4, 5] (fun _ _ h => h) hS rfl
      refine VC.skip_mt e4_14 [0, 2, 3, 4, 5] (fun _ _ h => h) hS rfl
     clear hS
     rintro e4_16 hS
     refine Zr ?_
     refine Zm ?_
     obtain ⟨b49, hS⟩ := gd_s hS
     refine Zu (q_add rfl rfl b49) ?_
     refine Za ?_
     refine VL.rnd (e4_16, (k5_15 + 1)) [0, 2, 3, 4, 5] (fun _ _ h => h) (go2 hS hK2) rfl
    replace hS := up2 hS hK2
    refine VC.exit_mt e4_14 [0, 2, 3, 4] (fun _ _ h => h) hS rfl
   refine Zy ?_
   refine VC.cond_f rfl ?_
   replace hS := up2 hS hK2
   refine VC.exit_mt e4_14 [0, 2, 3, 4] (fun _ _ h => h) hS rfl
  clear hS
  rintro e4_12 hS
  refine Zq (Zr ?_)
  refine Zm ?_
  refine Zu (q_neq rfl rfl) ?_
  refine Zl ?_
  refine Zcn hS (fun h62 hS => ?_) (fun h62 hS => ?_)
  ·
   refine Zq (Zr ?_)
   refine Zy ?_
   obtain ⟨y65_21, ey65_21, hS⟩ := bd_s hS
   refine VL.callF (r3_At_ct [102, 105, 108, 101] i3_3 e4_12 ey65_21) rfl (by decide) ?_
   rintro q65_21_0 rfl
   try dsimp only
   refine Zv (vc := [q65_21_0.parts.val, i64 q65_21_0.err]) (cs' := [q65_21_0.parts.val, i64 q65_21_0.err]) rfl gsz54 ?_
   refine Zl ?_
   replace hS := up2 hS hK1
   cases hS
   exact VC.ret (finG (vs := [.agg #[q65_21_0.parts.val, i64 q65_21_0.err]]) (.inr rfl) rfl (RVs.cell gagg54 rfl rfl Rd.blk (RVs.nil)) ⟨q65_21_0.parts, q65_21_0.err⟩ rfl rfl (by (try dsimp only); exact InM.out) (fun _ _ => trivial))
  refine Zk ?_
  refine Zr ?_
  refine Zm ?_
  obtain ⟨b15, hS⟩ := gd_s hS
  refine Zu (q_add rfl rfl b15) ?_
  refine Za ?_
  refine VL.rnd (i3_3 + 1) [0, 2, 3] (fun _ _ h => h) (go2 hS hK1) rfl
 replace hS := up2 hS hK1
 refine Zx ?_
 refine Zq (Zr ?_)
 refine Zu (q_build (vs := []) (cs := #[.slice none 0 0, i64 0]) rfl (by kernel_rfl)) ?_
 refine Zv (vc := [.slice none 0 0, i64 0]) (cs' := [.slice none 0 0, i64 0]) rfl gsz54 ?_
 refine Zl ?_
 cases hS
 exact VC.ret (finG (vs := [.agg #[.slice none 0 0, i64 0]]) (.inr rfl) rfl (RVs.cell gagg54 rfl rfl Rd.blk (RVs.nil)) ⟨⟨none, 0, []⟩, 0⟩ rfl rfl (by (try dsimp only); exact InM.out) (fun _ _ => trivial))
theorem r14_Put_ct (r_0 : Sv Rectoref14File) (f_1 : Rectoref14File) {r : List Rectoref14File} (hS : Sh.r14_Put r_0.l f_1 = some r) :
 Ct Tryz.prog 27 [r_0.val, .agg #[str f_1.path, i64 f_1.mode, str f_1.data]] r_0.ok (Ow.emp) (X := Sv Rectoref14File) (fun x => x.val) (fun x => r = x.l) (fun x => Mo.tt) (fun x => Sv.own x 45) := by
 refine Zo Tryz.func27 Tryz.ntmps27 fun c => ?_
 unfold Sh.r14_Put at hS
 refine Zq (Zr ?_)
 refine VL.box (cs := [str f_1.path, i64 f_1.mode, str f_1.data]) rfl rfl (by decide) fun b3_1 => ?_
 refine Zy ?_
 refine Zq (Zr ?_)
 refine Zy ?_
 refine Zq (Zr ?_)
 refine Zy ?_
 refine Zq (Zq (Zr ?_))
 refine Zy ?_
 refine Zb ?_
 refine VC.nilO (⟨none, 0, []⟩ : Sv Rectoref14File) 45 ⟨rfl, rfl⟩ ?_
 refine VC.iter (S := Sv Rectoref14File × Bool × Int) (fun sg => (sg.1.l, sg.2.1, sg.2.2)) (fun sg => [(0, r_0.val), (3, ptr b3_1 0), (5, sg.1.val), (6, .bool sg.2.1), (7, i64 sg.2.2)]) (fun sg => Mo.tt) (fun sg => Ow.star (Blk b3_1 [str f_1.path, i64 f_1.mode, str f_1.data] 45) (Ow.star (Sv.own sg.1 45) (Ow.emp))) (⟨none, 0, []⟩, false, 0) [0, 3, 5, 6, 7] hS rfl ?_
 clear hS
 rintro ⟨out5_2, put6_3, i7_4⟩ m1 y1 hS hK1
 refine Zq (Zq (Zr ?_))
 refine Zy ?_
 refine Zu (q_ln (s := r_0) Tryz.underlying48 rfl) ?_
 refine Zu (q_lss rfl rfl) ?_
 refine Zl ?_
 refine Zc hS (fun h11 hS => ?_) (fun h11 hS => ?_)
 ·
  refine Zk ?_
  refine VC.cutJ (S := Sv Rectoref14File × Bool) (fun sg => (sg.1.l, sg.2)) (fun sg => [(0, r_0.val), (3, ptr b3_1 0), (5, sg.1.val), (6, .bool sg.2), (7, i64 i7_4)]) (fun sg => Mo.tt) (fun sg => Ow.star (Blk b3_1 [str f_1.path, i64 f_1.mode, str f_1.data] 45) (Ow.star (Sv.own sg.1 45) (Ow.emp))) hS ?_ ?_
  ·
   clear hS
   intro k7 hS
   refine Zb ?_
   refine VC.cutJ (S := Sv Rectoref14File × Bool) (fun sg => (sg.1.l, sg.2)) (fun sg => [(0, r_0.val), (3, ptr b3_1 0), (5, sg.1.val), (6, .bool sg.2), (7, i64 i7_4)]) (fun sg => Mo.tt) (fun sg => Ow.star (Blk b3_1 [str f_1.path, i64 f_1.mode, str f_1.data] 45) (Ow.star (Sv.own sg.1 45) (Ow.emp))) hS ?_ ?_
   ·
    clear hS
    intro k10 hS
    refine VC.cutJ (S := Bool) (fun (x25_11 : Bool) => x25_11) (fun (x25_11 : Bool) => [(0, r_0.val), (3, ptr b3_1 0), (5, out5_2.val), (6, .bool put6_3), (7, i64 i7_4), (25, .bool x25_11)]) (fun (x25_11 : Bool) => Mo.tt) (fun (x25_11 : Bool) => Ow.star (Blk b3_1 [str f_1.path, i64 f_1.mode, str f_1.data] 45) (Ow.star (Sv.own out5_2 45) (Ow.emp))) hS ?_ ?_
    ·
     clear hS
     intro k12 hS
     refine VC.draw ((List.range 12).map fun k => (k, true)) mixed (by kernel_rfl) (by kernel_rfl) (by kernel_rfl) ?_
     refine Zw rfl (q_move rfl) ?_
     refine Zw rfl (q_not rfl) ?_
     refine Zw rfl (q_move rfl) ?_
     refine VD.split 16 rfl (fun h16 => ?_) (fun h16 => ?_)
     ·
      replace hS := it_t h16 hS
      refine Zi rfl (q_move rfl) ?_
      refine Zi rfl (q_move rfl) ?_
      obtain ⟨z19_13, nz19_13, hz19_13, hS⟩ := at_s hS
      refine Zi rfl (q_ixm (s := r_0) Tryz.underlying48 gsz45 rfl rfl nz19_13 (lt_of_get nz19_13 hz19_13)) ?_
      refine Zi rfl (q_field gfa45_0 rfl) ?_
      refine Zi rfl (q_elf (s := r_0) gone9 rfl hz19_13 rfl) ?_
      refine Zi rfl (q_field gfa45_0 rfl) ?_
      refine Zi rfl (q_fe gone9 rfl rfl) ?_
      refine Zi rfl (q_sgeq rfl rfl) ?_
      refine Zw rfl (q_pick_t rfl rfl) ?_
      refine VD.mt (!Op.bytesLess z19_13.path f_1.path) [0, 3, 5, 6, 7, 25] (fun _ _ h => h) hS rfl
     replace hS := it_b h16 hS
     refine Zd ?_
     refine Zd ?_
     refine Zd ?_
     refine Zd ?_
     refine Zd ?_
     refine Zd ?_
     refine Zd ?_
     refine Zd ?_
     refine Zw rfl (q_pick_f rfl rfl) ?_
     refine VD.mt false [0, 3, 5, 6, 7, 25] (fun _ _ h => h) hS rfl
    clear hS
    rintro x25_11 hS
    refine Zcb hS (fun h25 hS => ?_) (fun h25 hS => ?_)
    ·
     refine Zq (Zr ?_)
     refine Zm ?_
     refine Zu (q_fes gagg45 rfl rfl) ?_
     refine VL.lit (α := Rectoref14File) (xs := [.tmp 27]) (vs := [.agg #[str f_1.path, i64 f_1.mode, str f_1.data]]) [⟨f_1.path, f_1.mode, f_1.data⟩] Tryz.underlying48 glit45 (by decide) rfl rfl rfl rfl (by decide) (fun _ _ _ _ => trivial) (by decide) (fun s28_14 hs28_14 => ?_) (by decide)
     replace hS := lt_to hs28_14 hS
     obtain ⟨b29, hS⟩ := gd_s hS
     refine VL.app (s := out5_2) (r := s28_14) Tryz.underlying48 gapp45 (by decide) rfl Fo.out (ap1 b29) (ap2 b29 (by decide)) (by decide) (fun s29_16 hs29_16 => ?_)
     replace hS := lt_to hs29_16 hS
     refine Zy ?_
     refine Zr ?_
     refine Za ?_
     refine VL.mt (s29_16, true) [0, 3, 5, 6, 7] (fun _ _ h => h) hS rfl
    refine VC.skip_mt (out5_2, put6_3) [0, 3, 5, 6, 7] (fun _ _ h => h) hS rfl
   clear hS
   rintro ⟨out5_8, put6_9⟩ hS
   refine Zq ?_
   refine VC.draw ((List.range 8).map fun k => (k, true)) mixed (by kernel_rfl) (by kernel_rfl) (by kernel_rfl) ?_
   refine Zw rfl (q_move rfl) ?_
   refine Zw rfl (q_move rfl) ?_
   obtain ⟨z32_18, nz32_18, hz32_18, hS⟩ := at_s hS
   refine Zw rfl (q_ixm (s := r_0) Tryz.underlying48 gsz45 rfl rfl nz32_18 (lt_of_get nz32_18 hz32_18)) ?_
   refine Zw rfl (q_field gfa45_0 rfl) ?_
   refine Zw rfl (q_elf (s := r_0) gone9 rfl hz32_18 rfl) ?_
   refine Zw rfl (q_field gfa45_0 rfl) ?_
   refine Zw rfl (q_fe gone9 rfl rfl) ?_
   refine Zw rfl (q_sne rfl rfl) ?_
   refine VD.to (fun _ _ h => h) ?_
   refine VC.keep [0, 3, 5, 6, 7, 37] rfl ?_
   refine Zcn hS (fun h37 hS => ?_) (fun h37 hS => ?_)
   ·
    refine Zr ?_
    refine Zy ?_
    obtain ⟨z41_19, nz41_19, hz41_19, hS⟩ := at_s hS
    refine Zu (q_ixm (s := r_0) Tryz.underlying48 gsz45 rfl rfl nz41_19 (lt_of_get nz41_19 hz41_19)) ?_
    refine Zu (q_els (s := r_0) gagg45 rfl rfl hz41_19) ?_
    refine VL.lit (α := Rectoref14File) (xs := [.tmp 42]) (vs := [.agg #[str z41_19.path, i64 z41_19.mode, str z41_19.data]]) [⟨z41_19.path, z41_19.mode, z41_19.data⟩] Tryz.underlying48 glit45 (by decide) rfl rfl rfl rfl (by decide) (fun _ _ _ _ => trivial) (by decide) (fun s43_20 hs43_20 => ?_) (by decide)
    replace hS := lt_to hs43_20 hS
    obtain ⟨b44, hS⟩ := gd_s hS
    refine VL.app (s := out5_8) (r := s43_20) Tryz.underlying48 gapp45 (by decide) rfl Fo.out (ap1 b44) (ap2 b44 (by decide)) (by decide) (fun s44_22 hs44_22 => ?_)
    replace hS := lt_to hs44_22 hS
    refine Za ?_
    refine VL.mt (s44_22, put6_9) [0, 3, 5, 6, 7] (fun _ _ h => h) hS rfl
   refine VC.skip_mt (out5_8, put6_9) [0, 3, 5, 6, 7] (fun _ _ h => h) hS rfl
  clear hS
  rintro ⟨out5_5, put6_6⟩ hS
  refine Zr ?_
  refine Zm ?_
  obtain ⟨b13, hS⟩ := gd_s hS
  refine Zu (q_add rfl rfl b13) ?_
  refine Za ?_
  refine VL.rnd (out5_5, put6_6, (i7_4 + 1)) [0, 3, 5, 6, 7] (fun _ _ h => h) (go2 hS hK1) rfl
 replace hS := up2 hS hK1
 refine Zx ?_
 refine Zq (Zq (Zr ?_))
 refine Zm ?_
 refine Zu (q_not rfl) ?_
 refine Zl ?_
 refine VC.keep [3, 5, 46] rfl ?_
 refine Zcb hS (fun h46 hS => ?_) (fun h46 hS => ?_)
 ·
  refine Zr ?_
  refine Zm ?_
  refine Zu (q_fes gagg45 rfl rfl) ?_
  refine VL.lit (α := Rectoref14File) (xs := [.tmp 48]) (vs := [.agg #[str f_1.path, i64 f_1.mode, str f_1.data]]) [⟨f_1.path, f_1.mode, f_1.data⟩] Tryz.underlying48 glit45 (by decide) rfl rfl rfl rfl (by decide) (fun _ _ _ _ => trivial) (by decide) (fun s49_24 hs49_24 => ?_) (by decide)
  replace hS := lt_to hs49_24 hS
  obtain ⟨b50, hS⟩ := gd_s hS
  refine VL.app (s := out5_2) (r := s49_24) Tryz.underlying48 gapp45 (by decide) rfl Fo.out (ap1 b50) (ap2 b50 (by decide)) (by decide) (fun s50_26 hs50_26 => ?_)
  replace hS := lt_to hs50_26 hS
  refine Zy ?_
  refine Zq (Zr ?_)
  refine Zy ?_
  cases hS
  exact VC.ret (fin1 (.inr rfl) rfl rfl s50_26 rfl rfl (by (try dsimp only); exact InM.out) (by (try dsimp only); exact EntO.out))
 refine Zk ?_
 refine Zq (Zr ?_)
 refine Zy ?_
 cases hS
 exact VC.ret (fin1 (.inr rfl) rfl rfl out5_2 rfl rfl (by (try dsimp only); exact InM.out) (by (try dsimp only); exact EntO.out))
theorem r14_Paths_ct (l_0 : Sv (Sv Rectoref14File)) {r : List Str} (hS : Sh.r14_Paths (l_0.l.map Sv.l) = some r) :
 Ct Tryz.prog 105 [l_0.val] l_0.ok (Ow.emp) (X := Sv Str) (fun x => x.val) (fun x => r = x.l) (fun x => Mo.tt) (fun x => Sv.own x 9) := by
 refine Zo Tryz.func105 Tryz.ntmps105 fun c => ?_
 unfold Sh.r14_Paths at hS
 refine Zq (Zr ?_)
 refine Zy ?_
 refine Zq (Zr ?_)
 refine Zy ?_
 refine Zq (Zq (Zr ?_))
 refine Zy ?_
 refine Zb ?_
 refine VC.nilO (⟨none, 0, []⟩ : Sv Rectoref14File) 45 ⟨rfl, rfl⟩ ?_
 refine VC.iter (S := Sv Rectoref14File × Int) (fun sg => (sg.1.l, sg.2)) (fun sg => [(0, l_0.val), (3, sg.1.val), (4, i64 sg.2)]) (fun sg => Mo.tt) (fun sg => Ow.star (Sv.own sg.1 45) (Ow.emp)) (⟨none, 0, []⟩, 0) [0, 3, 4] hS rfl ?_
 clear hS
 rintro ⟨r3_1, i4_2⟩ m1 y1 hS hK1
 refine Zq (Zq (Zr ?_))
 refine Zy ?_
 refine Zu (q_lnm Sv.l (s := l_0) Tryz.underlying170 rfl) ?_
 refine Zu (q_lss rfl rfl) ?_
 refine Zl ?_
 refine Zc hS (fun h11 hS => ?_) (fun h11 hS => ?_)
 ·
  refine Zk ?_
  refine Zq (Zb (Zq (Zr ?_)))
  refine Zy ?_
  refine Zb ?_
  refine VC.iter (S := Sv Rectoref14File × Int) (fun sg => (sg.1.l, sg.2)) (fun sg => [(0, l_0.val), (3, sg.1.val), (4, i64 i4_2), (5, i64 sg.2)]) (fun sg => Mo.tt) (fun sg => Ow.star (Sv.own sg.1 45) (Ow.emp)) (r3_1, 0) [0, 3, 4, 5] hS rfl ?_
  clear hS
  rintro ⟨r3_3, k5_4⟩ m2 y2 hS hK2
  refine Zq (Zq (Zr ?_))
  refine Zy ?_
  obtain ⟨z17_5, nz17_5, hz17_5, hS⟩ := atm_s hS
  refine VL.deep z17_5.ok hz17_5 (fun _ q => q) ?_
  refine Zu (q_ixm (s := l_0) Tryz.underlying170 gsz48 rfl rfl nz17_5 (lt_of_get nz17_5 hz17_5)) ?_
  refine Zu (q_el (s := l_0) gone48 rfl hz17_5 rfl) ?_
  refine Zu (q_ln (s := z17_5) Tryz.underlying48 rfl) ?_
  refine Zu (q_lss rfl rfl) ?_
  refine Zl ?_
  refine Zc hS (fun h20 hS => ?_) (fun h20 hS => ?_)
  ·
   refine Zk ?_
   refine VC.keep [0, 3, 4, 5] rfl ?_
   refine Zq (Zb (Zr ?_))
   refine Zy ?_
   obtain ⟨z26_6, nz26_6, hz26_6, hS⟩ := atm_s hS
   refine VL.deep z26_6.ok hz26_6 (fun _ q => q) ?_
   refine Zu (q_ixm (s := l_0) Tryz.underlying170 gsz48 rfl rfl nz26_6 (lt_of_get nz26_6 hz26_6)) ?_
   refine Zu (q_el (s := l_0) gone48 rfl hz26_6 rfl) ?_
   refine Zm ?_
   obtain ⟨z29_7, nz29_7, hz29_7, hS⟩ := at_s hS
   refine Zu (q_ixm (s := z26_6) Tryz.underlying48 gsz45 rfl rfl nz29_7 (lt_of_get nz29_7 hz29_7)) ?_
   refine Zu (q_field gfa45_0 rfl) ?_
   refine Zu (q_elf (s := z26_6) gone9 rfl hz29_7 rfl) ?_
   refine Zu (q_build (vs := [(0, str z29_7.path)]) (cs := #[str z29_7.path, i64 0, str []]) rfl (by kernel_rfl)) ?_
   obtain ⟨y33_8, ey33_8, hS⟩ := bd_s hS
   refine VL.callOR (r14_Put_ct r3_3 (⟨z29_7.path, 0, []⟩ : Rectoref14File) ey33_8) rfl (by decide) ?_
   rintro q33_8_0 rfl
   try dsimp only
   refine Zy ?_
   refine VC.keep [0, 3, 4, 5] rfl ?_
   refine Zr ?_
   refine Zm ?_
   obtain ⟨b22, hS⟩ := gd_s hS
   refine Zu (q_add rfl rfl b22) ?_
   refine Za ?_
   refine VL.rnd (q33_8_0, (k5_4 + 1)) [0, 3, 4, 5] (fun _ _ h => h) (go2 hS hK2) rfl
  replace hS := up2 hS hK2
  refine Zx ?_
  refine VC.keep [0, 3, 4] rfl ?_
  refine Zr ?_
  refine Zm ?_
  obtain ⟨b13, hS⟩ := gd_s hS
  refine Zu (q_add rfl rfl b13) ?_
  refine Za ?_
  refine VL.rnd (r3_3, (i4_2 + 1)) [0, 3, 4] (fun _ _ h => h) (go2 hS hK1) rfl
 replace hS := up2 hS hK1
 refine Zx ?_
 refine Zq (Zr ?_)
 refine Zy ?_
 refine Zq (Zq (Zr ?_))
 refine Zy ?_
 refine Zb ?_
 refine VC.nilO (⟨none, 0, []⟩ : Sv Str) 9 ⟨rfl, rfl⟩ ?_
 refine VC.iter (S := Sv Str × Int) (fun sg => (sg.1.l, sg.2)) (fun sg => [(3, r3_1.val), (6, sg.1.val), (7, i64 sg.2)]) (fun sg => Mo.tt) (fun sg => Ow.star (Sv.own r3_1 45) (Ow.star (Sv.own sg.1 9) (Ow.emp))) (⟨none, 0, []⟩, 0) [3, 6, 7] hS rfl ?_
 clear hS
 rintro ⟨out6_9, i7_10⟩ m1 y1 hS hK1
 refine Zq (Zq (Zr ?_))
 refine Zy ?_
 refine Zu (q_ln (s := r3_1) Tryz.underlying48 rfl) ?_
 refine Zu (q_lss rfl rfl) ?_
 refine Zl ?_
 refine Zc hS (fun h37 hS => ?_) (fun h37 hS => ?_)
 ·
  refine Zk ?_
  refine Zq (Zb (Zr ?_))
  refine Zy ?_
  obtain ⟨z43_11, nz43_11, hz43_11, hS⟩ := at_s hS
  refine Zu (q_ixo (s := r3_1) Tryz.underlying48 gsz45 rfl rfl nz43_11 (lt_of_get nz43_11 hz43_11)) ?_
  refine Zu (q_field gfa45_0 rfl) ?_
  refine Zu (q_elfo (s := r3_1) gone9 rfl hz43_11 rfl) ?_
  refine VL.lit (α := Str) (xs := [.tmp 45]) (vs := [str z43_11.path]) [z43_11.path] Tryz.underlying82 glit9 (by decide) rfl rfl rfl rfl (by decide) (fun _ _ _ _ => trivial) (by decide) (fun s46_12 hs46_12 => ?_) (by decide)
  replace hS := lt_to hs46_12 hS
  obtain ⟨b47, hS⟩ := gd_s hS
  refine VL.app (s := out6_9) (r := s46_12) Tryz.underlying82 gapp9 (by decide) rfl Fo.out (ap1 b47) (ap2 b47 (by decide)) (by decide) (fun s47_14 hs47_14 => ?_)
  replace hS := lt_to hs47_14 hS
  refine Zy ?_
  refine VC.keep [3, 6, 7] rfl ?_
  refine Zr ?_
  refine Zm ?_
  obtain ⟨b39, hS⟩ := gd_s hS
  refine Zu (q_add rfl rfl b39) ?_
  refine Za ?_
  refine VL.rnd (s47_14, (i7_10 + 1)) [3, 6, 7] (fun _ _ h => h) (go2 hS hK1) rfl
 replace hS := up2 hS hK1
 refine Zx ?_
 refine Zq (Zr ?_)
 refine Zy ?_
 cases hS
 exact VC.ret (fin1 (.inr rfl) rfl rfl out6_9 rfl rfl (by (try dsimp only); exact InM.out) (by (try dsimp only); exact EntO.out))
end Go.Proofs.YtleokmhhloamaaaGreatDoor
end

section
set_option linter.unusedVariables false
namespace Go.Proofs.YtleokmhhloamaaaGreatDoor
set_option maxHeartbeats 4000000
set_option maxRecDepth 100000
open Go.RowKit Go.V
open Go.S hiding Str
theorem r14_Merge_ct (base_0 : Sv Rectoref14File) (ours_1 : Sv Rectoref14File) (theirs_2 : Sv Rectoref14File) (a_3 : Str) (b_4 : Str) {r : Rectoref14ResultP × Rectoref3WrongP} (hS : Sh.r14_Merge base_0.l ours_1.l theirs_2.l a_3 b_4 = some r) :
 Ct Tryz.prog 47 [base_0.val, ours_1.val, theirs_2.val, str a_3, str b_4] (base_0.ok.and (ours_1.ok.and theirs_2.ok)) (Ow.emp) (X := Rectoref14Result × Rectoref3Wrong) (fun x => .tuple #[.agg (Dat.enc x.1).toArray, .agg (Dat.enc x.2).toArray]) (fun x => r = (x.1.pl, x.2.pl)) (fun x => (x.1.m.and x.2.m)) (fun x => Ow.emp) := by
 refine Zo Tryz.func47 Tryz.ntmps47 fun c => ?_
 unfold Sh.r14_Merge at hS
 refine Zq (Zr ?_)
 refine VL.alloc (cs := [.slice none 0 0, .slice none 0 0, .slice none 0 0]) (by kernel_rfl) (by decide) fun b10_1 => ?_
 refine VL.alloc (cs := [.slice none 0 0, i64 0]) (by kernel_rfl) (by decide) fun b11_2 => ?_
 refine Zl ?_
 refine Zq (Zr ?_)
 refine Zy ?_
 refine VL.lit (α := Sv Rectoref14File) (xs := [.tmp 26, .tmp 27, .tmp 28]) (vs := [base_0.val, ours_1.val, theirs_2.val]) [base_0, ours_1, theirs_2] Tryz.underlying170 glit48 (by decide) rfl rfl rfl rfl (by decide) (fun h m => List.forall_mem_cons.2 ⟨InM.out (X := base_0.ok) h m, List.forall_mem_cons.2 ⟨InM.out (X := ours_1.ok) h m, List.forall_mem_cons.2 ⟨InM.out (X := theirs_2.ok) h m, fun _ h => by cases h⟩⟩⟩) (by decide) (fun s29_3 hs29_3 => ?_) (by decide)
 replace hS := lt_to (congrArg (List.map Sv.l) hs29_3) hS
 refine Zy ?_
 refine Zq (Zq (Zr ?_))
 refine Zy ?_
 refine Zb ?_
 refine VC.iter (S := Int) (fun (i13_5 : Int) => i13_5) (fun (i13_5 : Int) => [(0, base_0.val), (1, ours_1.val), (2, theirs_2.val), (3, str a_3), (4, str b_4), (10, ptr b10_1 0), (11, ptr b11_2 0), (12, s29_3.val), (13, i64 i13_5)]) (fun (i13_5 : Int) => Mo.tt) (fun (i13_5 : Int) => Ow.star (Blk b11_2 [.slice none 0 0, i64 0] 54) (Ow.star (Blk b10_1 [.slice none 0 0, .slice none 0 0, .slice none 0 0] 90) (Ow.emp))) 0 [0, 1, 2, 3, 4, 10, 11, 12, 13] hS rfl ?_
 clear hS
 rintro i13_5 m1 y1 hS hK1
 refine Zq (Zq (Zr ?_))
 refine Zm ?_
 refine Zu (q_lss rfl rfl) ?_
 refine Zl ?_
 refine Zc hS (fun h31 hS => ?_) (fun h31 hS => ?_)
 ·
  refine Zk ?_
  refine Zq (Zb (Zq (Zr ?_)))
  refine Zy ?_
  obtain ⟨z36_6, nz36_6, hz36_6, hS⟩ := atm_s hS
  refine VL.deep z36_6.ok hz36_6 (fun _ q => q) ?_
  refine Zu (q_ixm (s := s29_3) Tryz.underlying170 gsz48 rfl rfl nz36_6 (lt_of_get nz36_6 hz36_6)) ?_
  refine Zu (q_el (s := s29_3) gone48 rfl hz36_6 rfl) ?_
  obtain ⟨y38_7, ey38_7, hS⟩ := bd_s hS
  refine VL.callF (r14_Check_ct z36_6 ey38_7) rfl (by decide) ?_
  rintro q38_7_0 rfl
  try dsimp only
  refine VL.alloc (cs := [.slice none 0 0, i64 0]) (by kernel_rfl) (by decide) fun b14_8 => ?_
  refine Zv (vc := [q38_7_0.parts.val, i64 q38_7_0.err]) (cs' := [q38_7_0.parts.val, i64 q38_7_0.err]) rfl gsz54 ?_
  refine Zl ?_
  refine VC.keep [0, 1, 2, 3, 4, 10, 11, 12, 13, 14] rfl ?_
  refine Zq (Zr ?_)
  refine Zu (q_field gfa54_1 rfl) ?_
  refine Zu (q_fe gone3 rfl rfl) ?_
  refine Zu (q_neq rfl rfl) ?_
  refine Zl ?_
  refine Zcn hS (fun h41 hS => ?_) (fun h41 hS => ?_)
  ·
   refine Zq ?_
   refine VC.draw [(0, true), (1, true), (2, false), (3, false)] mixed (by kernel_rfl) (by kernel_rfl) (by kernel_rfl) ?_
   refine Zw rfl (q_build (vs := []) (cs := #[.slice none 0 0, .slice none 0 0, .slice none 0 0]) rfl (by kernel_rfl)) ?_
   refine Zw rfl (q_fes gagg54 rfl rfl) ?_
   refine VD.one rfl ?_
   refine Zv (vc := [.slice none 0 0, .slice none 0 0, .slice none 0 0]) (cs' := [.slice none 0 0, .slice none 0 0, .slice none 0 0]) rfl gsz90 ?_
   refine VL.back (D' := [(1, .agg #[q38_7_0.parts.val, i64 q38_7_0.err])]) (by kernel_rfl) (Pend.cons rfl (q_fes gagg54 rfl rfl) (Pend.nil)) ?_
   refine VD.one rfl ?_
   refine Zv (vc := [q38_7_0.parts.val, i64 q38_7_0.err]) (cs' := [q38_7_0.parts.val, i64 q38_7_0.err]) rfl gsz54 ?_
   refine VL.back (D' := []) (by kernel_rfl) (Pend.nil) ?_
   refine VD.to (fun _ _ h => h) ?_
   refine VC.keep [10, 11] rfl ?_
   replace hS := up2 hS hK1
   cases hS
   exact VC.ret (finG (vs := [.agg #[.slice none 0 0, .slice none 0 0, .slice none 0 0], .agg #[q38_7_0.parts.val, i64 q38_7_0.err]]) (.inr rfl) rfl (RVs.cell gagg90 rfl rfl Rd.blk (RVs.cell gagg54 rfl rfl Rd.blk (RVs.nil))) (⟨⟨none, 0, []⟩, ⟨none, 0, []⟩, ⟨none, 0, []⟩⟩, ⟨q38_7_0.parts, q38_7_0.err⟩) rfl rfl (by (try dsimp only); exact InM.out) (fun _ _ => trivial))
  refine Zk ?_
  refine Zr ?_
  refine Zm ?_
  obtain ⟨b33, hS⟩ := gd_s hS
  refine Zu (q_add rfl rfl b33) ?_
  refine Za ?_
  refine VL.rnd (i13_5 + 1) [0, 1, 2, 3, 4, 10, 11, 12, 13] (fun _ _ h => h) (go2 hS hK1) rfl
 replace hS := up2 hS hK1
 refine Zx ?_
 refine Zq (Zr ?_)
 refine Zu (q_build (vs := []) (cs := #[.slice none 0 0, .slice none 0 0, .slice none 0 0]) rfl (by kernel_rfl)) ?_
 refine VL.alloc (cs := [.slice none 0 0, .slice none 0 0, .slice none 0 0]) (by kernel_rfl) (by decide) fun b15_9 => ?_
 refine Zv (vc := [.slice none 0 0, .slice none 0 0, .slice none 0 0]) (cs' := [.slice none 0 0, .slice none 0 0, .slice none 0 0]) rfl gsz90 ?_
 refine Zl ?_
 refine Zq (Zr ?_)
 refine Zm ?_
 obtain ⟨y46_10, ey46_10, hS⟩ := bd_s hS
 refine VL.callO (r14_Paths_ct s29_3 ey46_10) rfl (by decide) ?_
 rintro q46_10_0 rfl
 try dsimp only
 refine Zy ?_
 refine Zq (Zq (Zr ?_))
 refine Zy ?_
 refine Zb ?_
 refine VC.nilO (⟨none, 0, []⟩ : Sv Rectoref14File) 45 ⟨rfl, rfl⟩ ?_
 refine VC.nilO (⟨none, 0, []⟩ : Sv Rectoref14Entry) 152 ⟨rfl, rfl⟩ ?_
 refine VC.nilO (⟨none, 0, []⟩ : Sv Str) 9 ⟨rfl, rfl⟩ ?_
 refine VC.reB b15_9 (cs' := [(⟨none, 0, []⟩ : Sv Rectoref14File).val, (⟨none, 0, []⟩ : Sv Rectoref14Entry).val, (⟨none, 0, []⟩ : Sv Str).val]) rfl ?_
 refine VC.iter (S := Int × Sv Rectoref14File × Sv Rectoref14Entry × Sv Str) (fun sg => (sg.1, sg.2.1.l, sg.2.2.1.l, sg.2.2.2.l)) (fun sg => [(0, base_0.val), (1, ours_1.val), (2, theirs_2.val), (3, str a_3), (4, str b_4), (10, ptr b10_1 0), (11, ptr b11_2 0), (12, s29_3.val), (15, ptr b15_9 0), (16, q46_10_0.val), (17, i64 sg.1)]) (fun sg => Mo.tt) (fun sg => Ow.star (Blk b15_9 [sg.2.1.val, sg.2.2.1.val, sg.2.2.2.val] 90) (Ow.star (Blk b11_2 [.slice none 0 0, i64 0] 54) (Ow.star (Blk b10_1 [.slice none 0 0, .slice none 0 0, .slice none 0 0] 90) (Ow.star (Sv.own q46_10_0 9) (Ow.star (Sv.own sg.2.1 45) (Ow.star (Sv.own sg.2.2.1 152) (Ow.star (Sv.own sg.2.2.2 9) (Ow.emp)))))))) (0, (⟨none, 0, []⟩ : Sv Rectoref14File), (⟨none, 0, []⟩ : Sv Rectoref14Entry), (⟨none, 0, []⟩ : Sv Str)) [0, 1, 2, 3, 4, 10, 11, 12, 15, 16, 17] hS rfl ?_
 clear hS
 rintro ⟨i17_11, c0_12, c1_13, c2_14⟩ m1 y1 hS hK1
 refine Zq (Zq (Zr ?_))
 refine Zy ?_
 refine Zu (q_ln (s := q46_10_0) Tryz.underlying82 rfl) ?_
 refine Zu (q_lss rfl rfl) ?_
 refine Zl ?_
 refine Zc hS (fun h50 hS => ?_) (fun h50 hS => ?_)
 ·
  refine Zk ?_
  refine VC.cutJ (S := Sv Rectoref14File × Sv Rectoref14Entry × Sv Str) (fun sg => (sg.1.l, sg.2.1.l, sg.2.2.l)) (fun sg => [(0, base_0.val), (1, ours_1.val), (2, theirs_2.val), (3, str a_3), (4, str b_4), (10, ptr b10_1 0), (11, ptr b11_2 0), (12, s29_3.val), (15, ptr b15_9 0), (16, q46_10_0.val), (17, i64 i17_11)]) (fun sg => Mo.tt) (fun sg => Ow.star (Blk b15_9 [sg.1.val, sg.2.1.val, sg.2.2.val] 90) (Ow.star (Blk b11_2 [.slice none 0 0, i64 0] 54) (Ow.star (Blk b10_1 [.slice none 0 0, .slice none 0 0, .slice none 0 0] 90) (Ow.star (Sv.own q46_10_0 9) (Ow.star (Sv.own sg.1 45) (Ow.star (Sv.own sg.2.1 152) (Ow.star (Sv.own sg.2.2 9) (Ow.emp)))))))) hS ?_ ?_
  ·
   clear hS
   intro k18 hS
   refine Zb (Zq (Zr ?_))
   refine Zy ?_
   obtain ⟨z56_19, nz56_19, hz56_19, hS⟩ := at_s hS
   refine Zu (q_ixo (s := q46_10_0) Tryz.underlying82 gsz9 rfl rfl nz56_19 (lt_of_get nz56_19 hz56_19)) ?_
   refine Zu (q_elo (s := q46_10_0) 9 gone9 rfl hz56_19 rfl) ?_
   refine Zy ?_
   obtain ⟨y63_20, ey63_20, hS⟩ := bd_s hS
   refine Zu (q_call (r14_One_ct z56_19 base_0 ours_1 theirs_2 a_3 b_4 ey63_20) rfl (fun _ _ => rfl)) ?_
   refine Zm ?_
   refine Zu (q_extract rfl rfl) ?_
   refine Zu (q_extract rfl rfl) ?_
   refine Zu (q_extract rfl rfl) ?_
   refine VL.alloc (cs := [str [], i64 0, str []]) (by kernel_rfl) (by decide) fun b18_21 => ?_
   refine Zv (vc := [str y63_20.1.path, i64 y63_20.1.mode, str y63_20.1.data]) (cs' := [str y63_20.1.path, i64 y63_20.1.mode, str y63_20.1.data]) rfl gsz45 ?_
   refine Zy ?_
   refine VC.keep [0, 1, 2, 3, 4, 10, 11, 12, 15, 16, 17, 18, 19, 20] rfl ?_
   refine VC.cutJ (S := Sv Rectoref14File) (fun (c0_22 : Sv Rectoref14File) => c0_22.l) (fun (c0_22 : Sv Rectoref14File) => [(0, base_0.val), (1, ours_1.val), (2, theirs_2.val), (3, str a_3), (4, str b_4), (10, ptr b10_1 0), (11, ptr b11_2 0), (12, s29_3.val), (15, ptr b15_9 0), (16, q46_10_0.val), (17, i64 i17_11), (20, .bool y63_20.2.2)]) (fun (c0_22 : Sv Rectoref14File) => Mo.tt) (fun (c0_22 : Sv Rectoref14File) => Ow.star (Blk b18_21 [str y63_20.1.path, i64 y63_20.1.mode, str y63_20.1.data] 45) (Ow.star (Blk b15_9 [c0_22.val, c1_13.val, c2_14.val] 90) (Ow.star (Blk b11_2 [.slice none 0 0, i64 0] 54) (Ow.star (Blk b10_1 [.slice none 0 0, .slice none 0 0, .slice none 0 0] 90) (Ow.star (Sv.own q46_10_0 9) (Ow.star (Sv.own c1_13 152) (Ow.star (Sv.own c2_14 9) (Ow.star (Sv.own c0_22 45) (Ow.emp))))))))) hS ?_ ?_
   ·
    clear hS
    intro k23 hS
    refine Zq (Zr ?_)
    refine Zy ?_
    refine Zcb hS (fun h67 hS => ?_) (fun h67 hS => ?_)
    ·
     refine Zr ?_
     refine Zu (q_field gfa90_0 rfl) ?_
     refine Zu (q_fe gone48 rfl rfl) ?_
     refine Zu (q_fes gagg45 rfl rfl) ?_
     refine VL.lit (α := Rectoref14File) (xs := [.tmp 70]) (vs := [.agg #[str y63_20.1.path, i64 y63_20.1.mode, str y63_20.1.data]]) [⟨y63_20.1.path, y63_20.1.mode, y63_20.1.data⟩] Tryz.underlying48 glit45 (by decide) rfl rfl rfl rfl (by decide) (fun _ _ _ _ => trivial) (by decide) (fun s71_24 hs71_24 => ?_) (by decide)
     replace hS := lt_to hs71_24 hS
     obtain ⟨b72, hS⟩ := gd_s hS
     refine VL.app (s := c0_12) (r := s71_24) Tryz.underlying48 gapp45 (by decide) rfl Fo.out (ap1 b72) (ap2 b72 (by decide)) (by decide) (fun s72_26 hs72_26 => ?_)
     replace hS := lt_to hs72_26 hS
     refine Zu (q_field gfa90_0 rfl) ?_
     refine Zv (vc := [s72_26.val]) (cs' := [s72_26.val, c1_13.val, c2_14.val]) rfl gsz48 ?_
     refine VL.mt s72_26 [0, 1, 2, 3, 4, 10, 11, 12, 15, 16, 17, 20] (fun _ _ h => h) hS rfl
    refine VC.skip_mt c0_12 [0, 1, 2, 3, 4, 10, 11, 12, 15, 16, 17, 20] (fun _ _ h => h) hS rfl
   clear hS
   rintro c0_22 hS
   refine Zq (Zq (Zr ?_))
   refine Zm ?_
   refine Zu (q_not rfl) ?_
   refine Zl ?_
   refine Zcb hS (fun h75 hS => ?_) (fun h75 hS => ?_)
   ·
    refine VC.exit_mt (c0_22, c1_13, c2_14) [0, 1, 2, 3, 4, 10, 11, 12, 15, 16, 17] (fun _ _ h => h) hS rfl
   refine Zk ?_
   refine Zq ?_
   refine VC.draw [(0, true), (1, true), (2, true), (3, true), (4, true), (5, true), (6, false), (7, false), (8, true), (9, false)] mixed (by kernel_rfl) (by kernel_rfl) (by kernel_rfl) ?_
   refine Zw rfl (q_field gfa90_2 rfl) ?_
   refine Zw rfl (q_fe gone82 rfl rfl) ?_
   refine Zw rfl (q_move rfl) ?_
   refine Zw rfl (q_move rfl) ?_
   obtain ⟨z80_28, nz80_28, hz80_28, hS⟩ := at_s hS
   refine Zw rfl (q_ixo (s := q46_10_0) Tryz.underlying82 gsz9 rfl rfl nz80_28 (lt_of_get nz80_28 hz80_28)) ?_
   refine Zw rfl (q_elo (s := q46_10_0) 9 gone9 rfl hz80_28 rfl) ?_
   refine VD.one rfl ?_
   refine VL.lit (α := Str) (xs := [.tmp 81]) (vs := [str z80_28]) [z80_28] Tryz.underlying82 glit9 (by decide) rfl rfl rfl rfl (by decide) (fun _ _ _ _ => trivial) (by decide) (fun s82_29 hs82_29 => ?_) (by decide)
   replace hS := lt_to hs82_29 hS
   refine VL.back (D' := [(1, c2_14.val), (0, ptr b15_9 2)]) (by kernel_rfl) (Pend.cons rfl (q_fe gone82 rfl rfl) (Pend.cons rfl (q_field gfa90_2 rfl) (Pend.nil))) ?_
   refine VD.one rfl ?_
   obtain ⟨b83, hS⟩ := gd_s hS
   refine VL.app (s := c2_14) (r := s82_29) Tryz.underlying82 gapp9 (by decide) rfl Fo.out (ap1 b83) (ap2 b83 (by decide)) (by decide) (fun s83_31 hs83_31 => ?_)
   replace hS := lt_to hs83_31 hS
   refine VL.back (D' := []) (by kernel_rfl) (Pend.nil) ?_
   refine Zw rfl (q_field gfa90_2 rfl) ?_
   refine VD.one rfl ?_
   refine Zv (vc := [s83_31.val]) (cs' := [c0_22.val, c1_13.val, s83_31.val]) rfl gsz82 ?_
   refine VL.back (D' := []) (by kernel_rfl) (Pend.nil) ?_
   refine VD.to (fun _ _ h => h) ?_
   refine VC.keep [0, 1, 2, 3, 4, 10, 11, 12, 15, 16, 17] rfl ?_
   refine Zq (Zr ?_)
   refine Zy ?_
   refine Zb ?_
   refine VC.iter (S := Int × Sv Rectoref14Entry) (fun sg => (sg.1, sg.2.l)) (fun sg => [(0, base_0.val), (1, ours_1.val), (2, theirs_2.val), (3, str a_3), (4, str b_4), (10, ptr b10_1 0), (11, ptr b11_2 0), (12, s29_3.val), (15, ptr b15_9 0), (16, q46_10_0.val), (17, i64 i17_11), (21, i64 sg.1)]) (fun sg => Mo.tt) (fun sg => Ow.star (Blk b15_9 [c0_22.val, sg.2.val, s83_31.val] 90) (Ow.star (Blk b18_21 [str y63_20.1.path, i64 y63_20.1.mode, str y63_20.1.data] 45) (Ow.star (Blk b11_2 [.slice none 0 0, i64 0] 54) (Ow.star (Blk b10_1 [.slice none 0 0, .slice none 0 0, .slice none 0 0] 90) (Ow.star (Sv.own s83_31 9) (Ow.star (Sv.own q46_10_0 9) (Ow.star (Sv.own c0_22 45) (Ow.star (Sv.own sg.2 152) (Ow.emp))))))))) (0, c1_13) [0, 1, 2, 3, 4, 10, 11, 12, 15, 16, 17, 21] hS rfl ?_
   clear hS
   rintro ⟨k21_33, c1_34⟩ m2 y2 hS hK2
   refine Zq (Zq (Zr ?_))
   refine Zm ?_
   refine Zu (q_lss rfl rfl) ?_
   refine Zl ?_
   refine Zc hS (fun h86 hS => ?_) (fun h86 hS => ?_)
   ·
    refine Zk ?_
    refine VC.cutJ (S := Sv Rectoref14Entry) (fun (c1_35 : Sv Rectoref14Entry) => c1_35.l) (fun (c1_35 : Sv Rectoref14Entry) => [(0, base_0.val), (1, ours_1.val), (2, theirs_2.val), (3, str a_3), (4, str b_4), (10, ptr b10_1 0), (11, ptr b11_2 0), (12, s29_3.val), (15, ptr b15_9 0), (16, q46_10_0.val), (17, i64 i17_11), (21, i64 k21_33)]) (fun (c1_35 : Sv Rectoref14Entry) => Mo.tt) (fun (c1_35 : Sv Rectoref14Entry) => Ow.star (Blk b15_9 [c0_22.val, c1_35.val, s83_31.val] 90) (Ow.star (Blk b18_21 [str y63_20.1.path, i64 y63_20.1.mode, str y63_20.1.data] 45) (Ow.star (Blk b11_2 [.slice none 0 0, i64 0] 54) (Ow.star (Blk b10_1 [.slice none 0 0, .slice none 0 0, .slice none 0 0] 90) (Ow.star (Sv.own s83_31 9) (Ow.star (Sv.own q46_10_0 9) (Ow.star (Sv.own c0_22 45) (Ow.star (Sv.own c1_35 152) (Ow.emp))))))))) hS ?_ ?_
    ·
     clear hS
     intro k36 hS
     refine Zb (Zq ?_)
     refine VC.draw [(0, true), (1, true), (2, true), (3, true), (4, true), (5, true), (6, true), (7, true), (8, true), (9, true), (10, true), (11, true), (12, false), (13, false), (14, true)] mixed (by kernel_rfl) (by kernel_rfl) (by kernel_rfl) ?_
     refine Zw rfl (q_move rfl) ?_
     refine Zw rfl (q_move rfl) ?_
     obtain ⟨z92_37, nz92_37, hz92_37, hS⟩ := atm_s hS
     refine VD.deep z92_37.ok hz92_37 (fun _ q => q) ?_
     refine Zw rfl (q_ixm (s := s29_3) Tryz.underlying170 gsz48 rfl rfl nz92_37 (lt_of_get nz92_37 hz92_37)) ?_
     refine Zw rfl (q_el (s := s29_3) gone48 rfl hz92_37 rfl) ?_
     refine Zw rfl (q_move rfl) ?_
     refine Zw rfl (q_move rfl) ?_
     obtain ⟨z96_38, nz96_38, hz96_38, hS⟩ := at_s hS
     refine Zw rfl (q_ixo (s := q46_10_0) Tryz.underlying82 gsz9 rfl rfl nz96_38 (lt_of_get nz96_38 hz96_38)) ?_
     refine Zw rfl (q_elo (s := q46_10_0) 9 gone9 rfl hz96_38 rfl) ?_
     obtain ⟨y98_39, ey98_39, hS⟩ := bd_s hS
     refine Zw rfl (q_call (r14_Get_ct z92_37 z96_38 ey98_39) rfl (fun _ _ => rfl)) ?_
     refine Zw rfl (q_move rfl) ?_
     refine Zw rfl (q_extract rfl rfl) ?_
     refine Zw rfl (q_extract rfl rfl) ?_
     refine VD.one rfl ?_
     refine VL.alloc (cs := [str [], i64 0, str []]) (by kernel_rfl) (by decide) fun b22_40 => ?_
     refine VL.back (D' := [(11, .bool y98_39.2), (10, .agg #[str y98_39.1.path, i64 y98_39.1.mode, str y98_39.1.data]), (9, .tuple #[.agg #[str y98_39.1.path, i64 y98_39.1.mode, str y98_39.1.data], .bool y98_39.2]), (8, .tuple #[.agg #[str y98_39.1.path, i64 y98_39.1.mode, str y98_39.1.data], .bool y98_39.2]), (7, str z96_38), (6, ptr q46_10_0.b (q46_10_0.o + (i17_11).toNat * Dat.sz Str + 0)), (3, z92_37.val), (2, ptr s29_3.b (s29_3.o + (k21_33).toNat * Dat.sz (Sv Rectoref14File) + 0))]) (by kernel_rfl) (Pend.cons rfl (q_extract rfl rfl) (Pend.cons rfl (q_extract rfl rfl) (Pend.cons rfl (q_move rfl) (Pend.cons rfl (q_call (r14_Get_ct z92_37 z96_38 ey98_39) rfl (fun _ _ => rfl)) (Pend.cons rfl (q_elo (s := q46_10_0) 9 gone9 rfl hz96_38 rfl) (Pend.cons rfl (q_ixo (s := q46_10_0) Tryz.underlying82 gsz9 rfl rfl nz96_38 (lt_of_get nz96_38 hz96_38)) (Pend.cons rfl (q_el (s := s29_3) gone48 rfl hz92_37 rfl) (Pend.cons rfl (q_ixm (s := s29_3) Tryz.underlying170 gsz48 rfl rfl nz92_37 (lt_of_get nz92_37 hz92_37)) (Pend.nil))))))))) ?_
     refine VD.one rfl ?_
     refine Zv (vc := [str y98_39.1.path, i64 y98_39.1.mode, str y98_39.1.data]) (cs' := [str y98_39.1.path, i64 y98_39.1.mode, str y98_39.1.data]) rfl gsz45 ?_
     refine VL.back (D' := [(11, .bool y98_39.2)]) (by kernel_rfl) (Pend.cons rfl (q_extract rfl rfl) (Pend.nil)) ?_
     refine Zw rfl (q_assign rfl) ?_
     refine VD.to (fun _ _ h => h) ?_
     refine VC.keep [0, 1, 2, 3, 4, 10, 11, 12, 15, 16, 17, 21, 22, 23] rfl ?_
     refine Zq (Zr ?_)
     refine Zy ?_
     refine Zcb hS (fun h101 hS => ?_) (fun h101 hS => ?_)
     ·
      refine Zr ?_
      refine Zu (q_field gfa90_1 rfl) ?_
      refine Zu (q_fe gone68 rfl rfl) ?_
      refine Zu (q_field gfa45_0 rfl) ?_
      refine Zu (q_fe gone9 rfl rfl) ?_
      refine Zm ?_
      obtain ⟨b107, hS⟩ := gd_s hS
      refine Zu (q_add rfl rfl b107) ?_
      refine Zu (q_field gfa45_1 rfl) ?_
      refine Zu (q_fe gone3 rfl rfl) ?_
      refine Zu (q_field gfa45_2 rfl) ?_
      refine Zu (q_fe gone9 rfl rfl) ?_
      refine Zu (q_build (vs := [(0, str y98_39.1.path), (1, i64 (k21_33 + 1)), (2, i64 y98_39.1.mode), (3, str y98_39.1.data)]) (cs := #[str y98_39.1.path, i64 (k21_33 + 1), i64 y98_39.1.mode, str y98_39.1.data, i64 0, i64 0]) rfl (by kernel_rfl)) ?_
      refine VL.lit (α := Rectoref14Entry) (xs := [.tmp 112]) (vs := [.agg #[str y98_39.1.path, i64 (k21_33 + 1), i64 y98_39.1.mode, str y98_39.1.data, i64 0, i64 0]]) [⟨y98_39.1.path, (k21_33 + 1), y98_39.1.mode, y98_39.1.data, 0, 0⟩] Tryz.underlying68 glit152 (by decide) rfl rfl rfl rfl (by decide) (fun _ _ _ _ => trivial) (by decide) (fun s113_41 hs113_41 => ?_) (by decide)
      replace hS := lt_to hs113_41 hS
      obtain ⟨b114, hS⟩ := gd_s hS
      refine VL.app (s := c1_34) (r := s113_41) Tryz.underlying68 gapp152 (by decide) rfl Fo.out (ap1 b114) (ap2 b114 (by decide)) (by decide) (fun s114_43 hs114_43 => ?_)
      replace hS := lt_to hs114_43 hS
      refine Zu (q_field gfa90_1 rfl) ?_
      refine Zv (vc := [s114_43.val]) (cs' := [c0_22.val, s114_43.val, s83_31.val]) rfl gsz68 ?_
      refine VL.mt s114_43 [0, 1, 2, 3, 4, 10, 11, 12, 15, 16, 17, 21] (fun _ _ h => h) hS rfl
     refine VC.skip_mt c1_34 [0, 1, 2, 3, 4, 10, 11, 12, 15, 16, 17, 21] (fun _ _ h => h) hS rfl
    clear hS
    rintro c1_35 hS
    refine Zr ?_
    refine Zm ?_
    obtain ⟨b88, hS⟩ := gd_s hS
    refine Zu (q_add rfl rfl b88) ?_
    refine Za ?_
    refine VL.rnd ((k21_33 + 1), c1_35) [0, 1, 2, 3, 4, 10, 11, 12, 15, 16, 17, 21] (fun _ _ h => h) (go2 hS hK2) rfl
   replace hS := up2 hS hK2
   refine VC.exit_mt (c0_22, c1_34, s83_31) [0, 1, 2, 3, 4, 10, 11, 12, 15, 16, 17] (fun _ _ h => h) hS rfl
  clear hS
  rintro ⟨c0_15, c1_16, c2_17⟩ hS
  refine Zr ?_
  refine Zm ?_
  obtain ⟨b52, hS⟩ := gd_s hS
  refine Zu (q_add rfl rfl b52) ?_
  refine Za ?_
  refine VL.rnd ((i17_11 + 1), c0_15, c1_16, c2_17) [0, 1, 2, 3, 4, 10, 11, 12, 15, 16, 17] (fun _ _ h => h) (go2 hS hK1) rfl
 replace hS := up2 hS hK1
 refine Zx ?_
 refine VC.keep [10, 11, 15] rfl ?_
 refine Zq (Zq (Zr ?_))
 refine Zu (q_field gfa90_0 rfl) ?_
 refine Zu (q_fe gone48 rfl rfl) ?_
 refine Zu (q_ln (s := c0_12) Tryz.underlying48 rfl) ?_
 refine Zu (q_gtr rfl rfl) ?_
 refine Zl ?_
 refine Zc hS (fun h119 hS => ?_) (fun h119 hS => ?_)
 ·
  refine Zq (Zr ?_)
  refine Zu (q_build (vs := []) (cs := #[.slice none 0 0, .slice none 0 0, .slice none 0 0]) rfl (by kernel_rfl)) ?_
  obtain ⟨y121_45, ey121_45, hS⟩ := bd_s hS
  refine VL.callF (r3_At_ct [102, 105, 108, 101] 64 4 ey121_45) rfl (by decide) ?_
  rintro q121_45_0 rfl
  try dsimp only
  refine Zv (vc := [.slice none 0 0, .slice none 0 0, .slice none 0 0]) (cs' := [.slice none 0 0, .slice none 0 0, .slice none 0 0]) rfl gsz90 ?_
  refine Zv (vc := [q121_45_0.parts.val, i64 q121_45_0.err]) (cs' := [q121_45_0.parts.val, i64 q121_45_0.err]) rfl gsz54 ?_
  refine Zl ?_
  cases hS
  exact VC.ret (finG (vs := [.agg #[.slice none 0 0, .slice none 0 0, .slice none 0 0], .agg #[q121_45_0.parts.val, i64 q121_45_0.err]]) (.inr rfl) rfl (RVs.cell gagg90 rfl rfl Rd.blk (RVs.cell gagg54 rfl rfl Rd.blk (RVs.nil))) (⟨⟨none, 0, []⟩, ⟨none, 0, []⟩, ⟨none, 0, []⟩⟩, ⟨q121_45_0.parts, q121_45_0.err⟩) rfl rfl (by (try dsimp only); exact InM.out) (fun _ _ => trivial))
 refine Zk ?_
 refine Zq (Zq (Zr ?_))
 refine Zy ?_
 refine Zb ?_
 refine VC.iter (S := Int) (fun (i24_46 : Int) => i24_46) (fun (i24_46 : Int) => [(10, ptr b10_1 0), (11, ptr b11_2 0), (15, ptr b15_9 0), (24, i64 i24_46)]) (fun (i24_46 : Int) => Mo.tt) (fun (i24_46 : Int) => Ow.star (Blk b15_9 [c0_12.val, c1_13.val, c2_14.val] 90) (Ow.star (Blk b11_2 [.slice none 0 0, i64 0] 54) (Ow.star (Blk b10_1 [.slice none 0 0, .slice none 0 0, .slice none 0 0] 90) (Ow.star (Sv.own c0_12 45) (Ow.star (Sv.own c1_13 152) (Ow.star (Sv.own c2_14 9) (Ow.emp))))))) 0 [10, 11, 15, 24] hS rfl ?_
 clear hS
 rintro i24_46 m1 y1 hS hK1
 refine Zq (Zq (Zr ?_))
 refine Zm ?_
 refine Zu (q_field gfa90_0 rfl) ?_
 refine Zu (q_fe gone48 rfl rfl) ?_
 refine Zu (q_ln (s := c0_12) Tryz.underlying48 rfl) ?_
 refine Zu (q_lss rfl rfl) ?_
 refine Zl ?_
 refine Zc hS (fun h126 hS => ?_) (fun h126 hS => ?_)
 ·
  refine Zk ?_
  refine Zq (Zb (Zq (Zr ?_)))
  refine Zy ?_
  refine Zb ?_
  refine VC.iter (S := Int) (fun (k25_47 : Int) => k25_47) (fun (k25_47 : Int) => [(10, ptr b10_1 0), (11, ptr b11_2 0), (15, ptr b15_9 0), (24, i64 i24_46), (25, i64 k25_47)]) (fun (k25_47 : Int) => Mo.tt) (fun (k25_47 : Int) => Ow.star (Blk b15_9 [c0_12.val, c1_13.val, c2_14.val] 90) (Ow.star (Blk b11_2 [.slice none 0 0, i64 0] 54) (Ow.star (Blk b10_1 [.slice none 0 0, .slice none 0 0, .slice none 0 0] 90) (Ow.star (Sv.own c0_12 45) (Ow.star (Sv.own c1_13 152) (Ow.star (Sv.own c2_14 9) (Ow.emp))))))) 0 [10, 11, 15, 24, 25] hS rfl ?_
  clear hS
  rintro k25_47 m2 y2 hS hK2
  refine Zq (Zq (Zr ?_))
  refine Zy ?_
  refine Zu (q_lss rfl rfl) ?_
  refine Zl ?_
  refine Zc hS (fun h131 hS => ?_) (fun h131 hS => ?_)
  ·
   refine Zk ?_
   refine Zq (Zb (Zq ?_))
   refine VC.draw ((List.range 13).map fun k => (k, true)) mixed (by kernel_rfl) (by kernel_rfl) (by kernel_rfl) ?_
   refine Zw rfl (q_field gfa90_0 rfl) ?_
   refine Zw rfl (q_fe gone48 rfl rfl) ?_
   refine Zw rfl (q_move rfl) ?_
   obtain ⟨z137_48, nz137_48, hz137_48, hS⟩ := at_s hS
   refine Zw rfl (q_ixo (s := c0_12) Tryz.underlying48 gsz45 rfl rfl nz137_48 (lt_of_get nz137_48 hz137_48)) ?_
   refine Zw rfl (q_field gfa45_0 rfl) ?_
   refine Zw rfl (q_elfo (s := c0_12) gone9 rfl hz137_48 rfl) ?_
   refine Zw rfl (q_field gfa90_0 rfl) ?_
   refine Zw rfl (q_fe gone48 rfl rfl) ?_
   refine Zw rfl (q_move rfl) ?_
   obtain ⟨z143_49, nz143_49, hz143_49, hS⟩ := at_s hS
   refine Zw rfl (q_ixo (s := c0_12) Tryz.underlying48 gsz45 rfl rfl nz143_49 (lt_of_get nz143_49 hz143_49)) ?_
   refine Zw rfl (q_field gfa45_0 rfl) ?_
   refine Zw rfl (q_elfo (s := c0_12) gone9 rfl hz143_49 rfl) ?_
   obtain ⟨y146_50, ey146_50, hS⟩ := bd_s hS
   refine Zw rfl (q_call (r1_Clash_ct z137_48.path z143_49.path ey146_50) rfl (fun _ _ => rfl)) ?_
   refine VD.to (fun _ _ h => h) ?_
   refine VC.keep [10, 11, 15, 24, 25, 146] rfl ?_
   refine Zcb hS (fun h146 hS => ?_) (fun h146 hS => ?_)
   ·
    refine Zq (Zr ?_)
    refine Zu (q_build (vs := []) (cs := #[.slice none 0 0, .slice none 0 0, .slice none 0 0]) rfl (by kernel_rfl)) ?_
    refine Zm ?_
    obtain ⟨y149_51, ey149_51, hS⟩ := bd_s hS
    refine VL.callF (r3_At_ct [102, 105, 108, 101] i24_46 11 ey149_51) rfl (by decide) ?_
    rintro q149_51_0 rfl
    try dsimp only
    refine Zv (vc := [.slice none 0 0, .slice none 0 0, .slice none 0 0]) (cs' := [.slice none 0 0, .slice none 0 0, .slice none 0 0]) rfl gsz90 ?_
    refine Zv (vc := [q149_51_0.parts.val, i64 q149_51_0.err]) (cs' := [q149_51_0.parts.val, i64 q149_51_0.err]) rfl gsz54 ?_
    refine Zl ?_
    replace hS := up2 hS hK2
    replace hS := up2 hS hK1
    cases hS
    exact VC.ret (finG (vs := [.agg #[.slice none 0 0, .slice none 0 0, .slice none 0 0], .agg #[q149_51_0.parts.val, i64 q149_51_0.err]]) (.inr rfl) rfl (RVs.cell gagg90 rfl rfl Rd.blk (RVs.cell gagg54 rfl rfl Rd.blk (RVs.nil))) (⟨⟨none, 0, []⟩, ⟨none, 0, []⟩, ⟨none, 0, []⟩⟩, ⟨q149_51_0.parts, q149_51_0.err⟩) rfl rfl (by (try dsimp only); exact InM.out) (fun _ _ => trivial))
   refine Zk ?_
   refine Zr ?_
   refine Zm ?_
   obtain ⟨b133, hS⟩ := gd_s hS
   refine Zu (q_add rfl rfl b133) ?_
   refine Za ?_
   refine VL.rnd (k25_47 + 1) [10, 11, 15, 24, 25] (fun _ _ h => h) (go2 hS hK2) rfl
  replace hS := up2 hS hK2
  refine Zx ?_
  refine Zr ?_
  refine Zm ?_
  obtain ⟨b128, hS⟩ := gd_s hS
  refine Zu (q_add rfl rfl b128) ?_
  refine Za ?_
  refine VL.rnd (i24_46 + 1) [10, 11, 15, 24] (fun _ _ h => h) (go2 hS hK1) rfl
 replace hS := up2 hS hK1
 refine Zx ?_
 refine Zq (Zr ?_)
 refine Zu (q_fes gagg90 rfl rfl) ?_
 refine Zu (q_build (vs := []) (cs := #[.slice none 0 0, i64 0]) rfl (by kernel_rfl)) ?_
 refine Zv (vc := [c0_12.val, c1_13.val, c2_14.val]) (cs' := [c0_12.val, c1_13.val, c2_14.val]) rfl gsz90 ?_
 refine Zv (vc := [.slice none 0 0, i64 0]) (cs' := [.slice none 0 0, i64 0]) rfl gsz54 ?_
 refine Zl ?_
 refine VC.keep [10, 11] rfl ?_
 refine VC.shut c0_12 45 (fun _ _ _ _ => trivial) ?_
 refine VC.shut c1_13 152 (fun _ _ _ _ => trivial) ?_
 refine VC.shut c2_14 9 (fun _ _ _ _ => trivial) ?_
 cases hS
 exact VC.ret (finG (vs := [.agg #[c0_12.val, c1_13.val, c2_14.val], .agg #[.slice none 0 0, i64 0]]) (.inr rfl) rfl (RVs.cell gagg90 rfl rfl Rd.blk (RVs.cell gagg54 rfl rfl Rd.blk (RVs.nil))) (⟨c0_12, c1_13, c2_14⟩, ⟨⟨none, 0, []⟩, 0⟩) rfl rfl (by (try dsimp only); exact InM.out) (fun _ _ => trivial))
theorem api_Errno_Error_ct (e_0 : Int) {r : Str} (hS : Sh.api_Errno_Error e_0 = some r) :
 Ct Tryz.prog 340 [i64 e_0] Mo.tt (Ow.emp) (X := Unit) (fun _ => str r) (fun _ => True) (fun _ => Mo.tt) (fun _ => Ow.emp) := by
 refine Zo Tryz.func340 Tryz.ntmps340 fun c => ?_
 unfold Sh.api_Errno_Error at hS
 refine Zq (Zr ?_)
 refine Zy ?_
 refine Zq (Zq (Zr ?_))
 refine Zy ?_
 refine Zb (Zq (Zr ?_))
 refine Zu (q_eql rfl rfl) ?_
 refine Zy ?_
 refine Zc hS (fun h4 hS => ?_) (fun h4 hS => ?_)
 ·
  refine Zq (Zr ?_)
  refine Zy ?_
  cases hS
  exact Ze
 refine Zq (Zr ?_)
 refine Zu (q_eql rfl rfl) ?_
 refine Zy ?_
 refine Zc hS (fun h6 hS => ?_) (fun h6 hS => ?_)
 ·
  refine Zq (Zr ?_)
  refine Zy ?_
  cases hS
  exact Ze
 refine Zq (Zr ?_)
 refine Zu (q_eql rfl rfl) ?_
 refine Zy ?_
 refine Zc hS (fun h8 hS => ?_) (fun h8 hS => ?_)
 ·
  refine Zq (Zr ?_)
  refine Zy ?_
  cases hS
  exact Ze
 refine Zq (Zr ?_)
 refine Zu (q_eql rfl rfl) ?_
 refine Zy ?_
 refine VC.keep [3, 10] rfl ?_
 refine Zc hS (fun h10 hS => ?_) (fun h10 hS => ?_)
 ·
  refine Zq (Zr ?_)
  refine Zy ?_
  cases hS
  exact Ze
 refine Zq (Zr ?_)
 refine Zu (q_eql rfl rfl) ?_
 refine Zy ?_
 refine Zc hS (fun h12 hS => ?_) (fun h12 hS => ?_)
 ·
  refine Zq (Zr ?_)
  refine Zy ?_
  cases hS
  exact Ze
 refine Zq (Zr ?_)
 refine Zu (q_eql rfl rfl) ?_
 refine Zy ?_
 refine Zc hS (fun h14 hS => ?_) (fun h14 hS => ?_)
 ·
  refine Zq (Zr ?_)
  refine Zy ?_
  cases hS
  exact Ze
 refine Zq (Zr ?_)
 refine Zu (q_eql rfl rfl) ?_
 refine Zy ?_
 refine Zc hS (fun h16 hS => ?_) (fun h16 hS => ?_)
 ·
  refine Zq (Zr ?_)
  refine Zy ?_
  cases hS
  exact Ze
 refine Zq (Zr ?_)
 refine Zu (q_eql rfl rfl) ?_
 refine Zy ?_
 refine Zc hS (fun h18 hS => ?_) (fun h18 hS => ?_)
 ·
  refine Zq (Zr ?_)
  refine Zy ?_
  refine VC.keep [2] rfl ?_
  cases hS
  exact Ze
 refine Zq (Zr ?_)
 refine Zu (q_eql rfl rfl) ?_
 refine Zy ?_
 refine VC.keep [3, 20] rfl ?_
 refine Zc hS (fun h20 hS => ?_) (fun h20 hS => ?_)
 ·
  refine Zq (Zr ?_)
  refine Zy ?_
  cases hS
  exact Ze
 refine Zq (Zr ?_)
 refine Zu (q_eql rfl rfl) ?_
 refine Zy ?_
 refine Zc hS (fun h22 hS => ?_) (fun h22 hS => ?_)
 ·
  refine Zq (Zr ?_)
  refine Zy ?_
  cases hS
  exact Ze
 refine Zq (Zr ?_)
 refine Zu (q_eql rfl rfl) ?_
 refine Zy ?_
 refine Zc hS (fun h24 hS => ?_) (fun h24 hS => ?_)
 ·
  refine Zq (Zr ?_)
  refine Zy ?_
  cases hS
  exact Ze
 refine Zq (Zr ?_)
 refine Zu (q_eql rfl rfl) ?_
 refine Zy ?_
 refine Zc hS (fun h26 hS => ?_) (fun h26 hS => ?_)
 ·
  refine Zq (Zr ?_)
  refine Zy ?_
  cases hS
  exact Ze
 refine Zq (Zr ?_)
 refine Zu (q_eql rfl rfl) ?_
 refine Zy ?_
 refine Zc hS (fun h28 hS => ?_) (fun h28 hS => ?_)
 ·
  refine Zq (Zr ?_)
  refine Zy ?_
  refine VC.keep [2] rfl ?_
  cases hS
  exact Ze
 refine Zq (Zr ?_)
 refine Zu (q_eql rfl rfl) ?_
 refine Zy ?_
 refine VC.keep [3, 30] rfl ?_
 refine Zc hS (fun h30 hS => ?_) (fun h30 hS => ?_)
 ·
  refine Zq (Zr ?_)
  refine Zy ?_
  cases hS
  exact Ze
 refine Zq (Zr ?_)
 refine Zu (q_eql rfl rfl) ?_
 refine Zy ?_
 refine Zc hS (fun h32 hS => ?_) (fun h32 hS => ?_)
 ·
  refine Zq (Zr ?_)
  refine Zy ?_
  cases hS
  exact Ze
 refine Zk ?_
 refine Zq (Zr ?_)
 refine Zy ?_
 cases hS
 exact Ze
theorem internal_strconv_small_ct (i_0 : Int) {r : Str} (hS : Sh.internal_strconv_small i_0 = some r) :
 Ct Tryz.prog 330 [i64 i_0] Mo.tt (Ow.emp) (X := Unit) (fun _ => str r) (fun _ => True) (fun _ => Mo.tt) (fun _ => Ow.emp) := by
 refine Zo Tryz.func330 Tryz.ntmps330 fun c => ?_
 unfold Sh.internal_strconv_small at hS
 refine Zq (Zr ?_)
 refine Zy ?_
 refine Zq (Zq (Zr ?_))
 refine Zm ?_
 refine Zu (q_lss rfl rfl) ?_
 refine Zl ?_
 refine Zc hS (fun h4 hS => ?_) (fun h4 hS => ?_)
 ·
  refine Zq (Zr ?_)
  refine Zy ?_
  obtain ⟨b7, hS⟩ := gd_s hS
  refine Zu (q_add rfl rfl b7) ?_
  obtain ⟨b8, hS⟩ := gd_s hS
  obtain ⟨y8_1, ey8_1, hS⟩ := lt_s hS
  refine Zu (q_smidE Tryz.underlying9 rfl rfl rfl b8.1 b8.2.1 b8.2.2 ey8_1) ?_
  refine Zy ?_
  cases hS
  exact Ze
 refine Zk ?_
 refine Zq (Zr ?_)
 refine Zm ?_
 obtain ⟨b10, hS⟩ := gd_s hS
 refine Zu (q_mul rfl rfl b10) ?_
 refine Zm ?_
 obtain ⟨b12, hS⟩ := gd_s hS
 refine Zu (q_mul rfl rfl b12) ?_
 obtain ⟨b13, hS⟩ := gd_s hS
 refine Zu (q_add rfl rfl b13) ?_
 obtain ⟨b14, hS⟩ := gd_s hS
 obtain ⟨y14_2, ey14_2, hS⟩ := lt_s hS
 refine Zu (q_smidE Tryz.underlying9 rfl rfl rfl b14.1 b14.2.1 b14.2.2 ey14_2) ?_
 refine Zy ?_
 cases hS
 exact Ze
theorem internal_strconv_FormatInt_ct (i_0 : Int) (base_1 : Int) {r : Str} (hS : Sh.internal_strconv_FormatInt i_0 base_1 = some r) :
 Ct Tryz.prog 329 [i64 i_0, i64 base_1] Mo.tt (Ow.emp) (X := Unit) (fun _ => str r) (fun _ => True) (fun _ => Mo.tt) (fun _ => Ow.emp) := by
 refine Zo Tryz.func329 Tryz.ntmps329 fun c => ?_
 unfold Sh.internal_strconv_FormatInt at hS
 refine Zq (Zr ?_)
 refine Zy ?_
 refine Zq (Zq (Zr ?_))
 refine Zm ?_
 refine Zu (q_eql rfl rfl) ?_
 refine Zl ?_
 refine Zc hS (fun h11 hS => ?_) (fun h11 hS => ?_)
 ·
  refine Zq ?_
  refine VC.cutJ (S := Bool) (fun (x17_1 : Bool) => x17_1) (fun (x17_1 : Bool) => [(0, i64 i_0), (17, .bool x17_1)]) (fun (x17_1 : Bool) => Mo.tt) (fun (x17_1 : Bool) => Ow.emp) hS ?_ ?_
  ·
   clear hS
   intro k2 hS
   refine Zr ?_
   refine Zm ?_
   refine Zu (q_leq rfl rfl) ?_
   refine Zm ?_
   refine Zsp 14 hS (fun h14 hS => ?_) (fun h14 hS => ?_)
   ·
    refine Zg ?_
    refine Zh (q_lss rfl rfl) ?_
    refine Zt ?_
    refine VL.mt (decide (i_0 < 100)) [0, 17] (fun _ _ h => h) hS rfl
   refine Zy ?_
   refine VL.mt false [0, 17] (fun _ _ h => h) hS rfl
  clear hS
  rintro x17_1 hS
  refine Zcb hS (fun h17 hS => ?_) (fun h17 hS => ?_)
  ·
   refine Zq (Zr ?_)
   refine Zm ?_
   obtain ⟨y19_3, ey19_3, hS⟩ := bd_s hS
   refine Zu (q_call (internal_strconv_small_ct i_0 ey19_3) rfl (fun _ _ => rfl)) ?_
   refine Zy ?_
   cases hS
   exact Ze
  refine Zk ?_
  refine Zq (Zr ?_)
  cases hS
 refine Zk ?_
 refine Zq (Zr ?_)
 refine Zm ?_
 refine Zu (q_convW Tryz.underlying2 Tryz.underlying231 rfl) ?_
 refine Zy ?_
 refine Zu (q_lss rfl rfl) ?_
 cases hS
theorem internal_strconv_Itoa_ct (i_0 : Int) {r : Str} (hS : Sh.internal_strconv_Itoa i_0 = some r) :
 Ct Tryz.prog 328 [i64 i_0] Mo.tt (Ow.emp) (X := Unit) (fun _ => str r) (fun _ => True) (fun _ => Mo.tt) (fun _ => Ow.emp) := by
 refine Zo Tryz.func328 Tryz.ntmps328 fun c => ?_
 unfold Sh.internal_strconv_Itoa at hS
 refine Zq (Zr ?_)
 refine Zy ?_
 refine Zq (Zr ?_)
 refine Zm ?_
 obtain ⟨y4_1, ey4_1, hS⟩ := bd_s hS
 refine Zu (q_call (internal_strconv_FormatInt_ct i_0 10 ey4_1) rfl (fun _ _ => rfl)) ?_
 refine Zy ?_
 cases hS
 exact Ze
theorem strconv_Itoa_ct (i_0 : Int) {r : Str} (hS : Sh.strconv_Itoa i_0 = some r) :
 Ct Tryz.prog 327 [i64 i_0] Mo.tt (Ow.emp) (X := Unit) (fun _ => str r) (fun _ => True) (fun _ => Mo.tt) (fun _ => Ow.emp) := by
 refine Zo Tryz.func327 Tryz.ntmps327 fun c => ?_
 unfold Sh.strconv_Itoa at hS
 refine Zq (Zr ?_)
 refine Zy ?_
 refine Zq (Zr ?_)
 refine Zm ?_
 obtain ⟨y4_1, ey4_1, hS⟩ := bd_s hS
 refine Zu (q_call (internal_strconv_Itoa_ct i_0 ey4_1) rfl (fun _ _ => rfl)) ?_
 refine Zy ?_
 cases hS
 exact Ze
theorem api_Fault_Error_ct (f_0_b : Nat) (f_0 : ApiFault) {E : Option Str} (ih : ∀ {y : Str}, E = some y → Says Tryz.prog f_0.err.val "Error" (f_0.err.ok.and Gl) (str y)) {r : Str} (hS : Sh.api_Fault_Error f_0.pl E = some r) :
 Ct Tryz.prog 325 [ptr f_0_b 0] (f_0.err.ok.and ((Cells f_0_b 0 [str f_0.part, i64 f_0.at_, f_0.err.val]).and Gl)) (Ow.emp) (X := Unit) (fun _ => str r) (fun _ => True) (fun _ => Mo.tt) (fun _ => Ow.emp) := by
 refine Zo Tryz.func325 Tryz.ntmps325 fun c => ?_
 unfold Sh.api_Fault_Error at hS
 refine Zq (Zr ?_)
 refine Zy ?_
 refine Zq (Zq (Zr ?_))
 refine Zm ?_
 refine Zu (q_nilCheck rfl) ?_
 refine Zu (q_field gfa117_2 rfl) ?_
 refine Zu (q_fm gone29 rfl rfl) ?_
 refine Zu (q_ereq Tryz.underlying29 rfl) ?_
 refine Zl ?_
 refine Zc hS (fun h7 hS => ?_) (fun h7 hS => ?_)
 ·
  refine Zq ?_
  refine VC.draw ((List.range 12).map fun k => (k, true)) mixed (by kernel_rfl) (by kernel_rfl) (by kernel_rfl) ?_
  refine Zw rfl (q_move rfl) ?_
  refine Zw rfl (q_nilCheck rfl) ?_
  refine Zw rfl (q_field gfa117_0 rfl) ?_
  refine Zw rfl (q_fm gone9 rfl rfl) ?_
  obtain ⟨b12, hS⟩ := gd_s hS
  obtain ⟨y12_1, ey12_1, hS⟩ := lt_s hS
  refine Zw rfl (q_catE rfl rfl b12 ey12_1) ?_
  refine Zw rfl (q_move rfl) ?_
  refine Zw rfl (q_nilCheck rfl) ?_
  refine Zw rfl (q_field gfa117_1 rfl) ?_
  refine Zw rfl (q_fm gone3 rfl rfl) ?_
  obtain ⟨y17_2, ey17_2, hS⟩ := bd_s hS
  refine Zw rfl (q_call (strconv_Itoa_ct f_0.at_ ey17_2) rfl (fun _ _ => rfl)) ?_
  obtain ⟨b18, hS⟩ := gd_s hS
  obtain ⟨y18_3, ey18_3, hS⟩ := lt_s hS
  refine Zw rfl (q_catE rfl rfl b18 ey18_3) ?_
  refine Zw rfl (q_assign rfl) ?_
  refine VD.to (fun _ _ h => h) ?_
  refine VC.keep [2] rfl ?_
  cases hS
  exact Ze
 refine Zk ?_
 refine Zq ?_
 refine VC.draw ((List.range 19).map fun k => (k, true)) mixed (by kernel_rfl) (by kernel_rfl) (by kernel_rfl) ?_
 refine Zw rfl (q_move rfl) ?_
 refine Zw rfl (q_nilCheck rfl) ?_
 refine Zw rfl (q_field gfa117_0 rfl) ?_
 refine Zw rfl (q_fm gone9 rfl rfl) ?_
 obtain ⟨b23, hS⟩ := gd_s hS
 obtain ⟨y23_4, ey23_4, hS⟩ := lt_s hS
 refine Zw rfl (q_catE rfl rfl b23 ey23_4) ?_
 refine Zw rfl (q_move rfl) ?_
 refine Zw rfl (q_nilCheck rfl) ?_
 refine Zw rfl (q_field gfa117_1 rfl) ?_
 refine Zw rfl (q_fm gone3 rfl rfl) ?_
 obtain ⟨y28_5, ey28_5, hS⟩ := bd_s hS
 refine Zw rfl (q_call (strconv_Itoa_ct f_0.at_ ey28_5) rfl (fun _ _ => rfl)) ?_
 obtain ⟨b29, hS⟩ := gd_s hS
 obtain ⟨y29_6, ey29_6, hS⟩ := lt_s hS
 refine Zw rfl (q_catE rfl rfl b29 ey29_6) ?_
 obtain ⟨b30, hS⟩ := gd_s hS
 obtain ⟨y30_7, ey30_7, hS⟩ := lt_s hS
 refine Zw rfl (q_catE rfl rfl b30 ey30_7) ?_
 refine Zw rfl (q_move rfl) ?_
 refine Zw rfl (q_nilCheck rfl) ?_
 refine Zw rfl (q_field gfa117_2 rfl) ?_
 refine Zw rfl (q_fm gone29 rfl rfl) ?_
 obtain ⟨y35_8, ey35_8, hS⟩ := bd_s hS
 refine Zw rfl (q_say rfl (ih ey35_8)) ?_
 obtain ⟨b36, hS⟩ := gd_s hS
 obtain ⟨y36_9, ey36_9, hS⟩ := lt_s hS
 refine Zw rfl (q_catE rfl rfl b36 ey36_9) ?_
 refine Zw rfl (q_assign rfl) ?_
 refine VD.to (fun _ _ h => h) ?_
 refine VC.keep [2] rfl ?_
 cases hS
 exact Ze
theorem fault_me (v : Value) : Meth Tryz.prog (.iface 114 v) "Error" 325 v := Meth.of fun w => by kernel_rfl
theorem errno_me (v : Value) : Meth Tryz.prog (.iface 115 v) "Error" 340 v := Meth.of fun w => by kernel_rfl
theorem text_says : ∀ (z : Er) {r : Str} (h : Sh.erText z.pl = some r), Says Tryz.prog z.val "Error" (z.ok.and Gl) (str r)
  | .nil, r, h => by cases h
  | .no n, r, h => ⟨340, i64 n, errno_me _, (api_Errno_Error_ct n h).weak (fun _ _ => trivial) (fun _ q => q)⟩
  | .fault b p a e, r, h => ⟨325, ptr b 0, fault_me _, (api_Fault_Error_ct b ⟨p, a, e⟩ (E := Sh.erText e.pl) (fun q => text_says e q) h).weak (fun _ m => ⟨m.1.2, m.1.1, m.2⟩) (fun _ q => q)⟩
theorem r3_Decimal_r_ct (n_0 : Int) {r : Str} (hS : Sh.r3_Decimal_r n_0 = some r) :
 Ct Tryz.prog 133 [i64 n_0] Mo.tt (Ow.emp) (X := Unit) (fun _ => str r) (fun _ => True) (fun _ => Mo.tt) (fun _ => Ow.emp) := by
 refine Zo Tryz.func133 Tryz.ntmps133 fun c => ?_
 unfold Sh.r3_Decimal_r at hS
 refine Zq (Zr ?_)
 refine Zy ?_
 refine Zq (Zq (Zr ?_))
 refine Zm ?_
 refine Zu (q_lss rfl rfl) ?_
 refine Zl ?_
 refine Zc hS (fun h5 hS => ?_) (fun h5 hS => ?_)
 ·
  refine Zq (Zq (Zr ?_))
  refine Zm ?_
  refine Zu (q_eql rfl rfl) ?_
  refine Zl ?_
  refine Zc hS (fun h7 hS => ?_) (fun h7 hS => ?_)
  ·
   refine Zq (Zr ?_)
   refine Zy ?_
   cases hS
   exact Ze
  refine Zk ?_
  refine Zq (Zr ?_)
  refine Zm ?_
  obtain ⟨b9, hS⟩ := gd_s hS
  refine Zu (q_sub rfl rfl b9) ?_
  cases hS
 refine Zk ?_
 refine Zq (Zr ?_)
 refine Zm ?_
 obtain ⟨b13, hS⟩ := gd_s hS
 refine Zu (q_rem rfl rfl b13) ?_
 obtain ⟨b14, hS⟩ := gd_s hS
 refine Zu (q_add rfl rfl b14) ?_
 obtain ⟨b15, hS⟩ := gd_s hS
 refine Zu (q_conv Tryz.underlying3 Tryz.underlying5 rfl (wu8_in b15)) ?_
 obtain ⟨b16_15, hS⟩ := gd_s hS
 obtain ⟨u16_2, eu16_2, hS⟩ := lt_s hS
 refine VL.setv 15 rfl (congrArg (Value.int .u8) (u8_z b16_15 eu16_2)) ?_
 refine VL.lit (α := UInt8) (xs := [.tmp 15]) (vs := [.int .u8 (u16_2.toNat : Int)]) [u16_2] Tryz.underlying27 glit5 (by decide) rfl rfl rfl rfl (by decide) (fun _ _ _ _ => trivial) (by decide) (fun s16_1 hs16_1 => ?_) (by decide)
 replace hS := lt_to hs16_1 hS
 refine Zu (q_b2s (s := s16_1) Tryz.underlying27 Tryz.underlying5 Tryz.underlying9 rfl) ?_
 refine Zy ?_
 refine VC.keep [0, 3] rfl ?_
 refine Zq (Zb ?_)
 refine VC.iter (S := Int × Str) (fun sg => (sg.1, sg.2)) (fun sg => [(0, i64 sg.1), (3, str sg.2)]) (fun sg => Mo.tt) (fun sg => Ow.emp) (n_0, s16_1.l) [0, 3] hS rfl ?_
 clear hS
 rintro ⟨n0_4, s3_5⟩ m1 y1 hS hK1
 refine Zq (Zq (Zr ?_))
 refine Zm ?_
 refine Zu (q_geq rfl rfl) ?_
 refine Zl ?_
 refine Zc hS (fun h19 hS => ?_) (fun h19 hS => ?_)
 ·
  refine Zk ?_
  refine Zb (Zq (Zr ?_))
  refine Zm ?_
  obtain ⟨b21, hS⟩ := gd_s hS
  refine Zu (q_quo rfl rfl b21.1 (wi64_in b21.2)) ?_
  refine Zy ?_
  refine Zr ?_
  refine Zm ?_
  obtain ⟨b23, hS⟩ := gd_s hS
  refine Zu (q_rem rfl rfl b23) ?_
  obtain ⟨b24, hS⟩ := gd_s hS
  refine Zu (q_add rfl rfl b24) ?_
  obtain ⟨b25, hS⟩ := gd_s hS
  refine Zu (q_conv Tryz.underlying3 Tryz.underlying5 rfl (wu8_in b25)) ?_
  obtain ⟨b26_25, hS⟩ := gd_s hS
  obtain ⟨u26_7, eu26_7, hS⟩ := lt_s hS
  refine VL.setv 25 rfl (congrArg (Value.int .u8) (u8_z b26_25 eu26_7)) ?_
  refine VL.lit (α := UInt8) (xs := [.tmp 25]) (vs := [.int .u8 (u26_7.toNat : Int)]) [u26_7] Tryz.underlying27 glit5 (by decide) rfl rfl rfl rfl (by decide) (fun _ _ _ _ => trivial) (by decide) (fun s26_6 hs26_6 => ?_) (by decide)
  replace hS := lt_to hs26_6 hS
  refine Zu (q_b2s (s := s26_6) Tryz.underlying27 Tryz.underlying5 Tryz.underlying9 rfl) ?_
  refine Zm ?_
  obtain ⟨b29, hS⟩ := gd_s hS
  obtain ⟨y29_9, ey29_9, hS⟩ := lt_s hS
  refine Zu (q_catE rfl rfl b29 ey29_9) ?_
  refine Za ?_
  refine VL.rnd ((n0_4 / 10), y29_9) [0, 3] (fun _ _ h => h) (go2 hS hK1) rfl
 replace hS := up2 hS hK1
 refine Zx ?_
 refine Zq (Zr ?_)
 refine Zy ?_
 cases hS
 exact Ze
theorem r3_Decimal_ct (n_0 : Int) {r : Str} (hS : Sh.r3_Decimal n_0 = some r) :
 Ct Tryz.prog 133 [i64 n_0] Mo.tt (Ow.emp) (X := Unit) (fun _ => str r) (fun _ => True) (fun _ => Mo.tt) (fun _ => Ow.emp) := by
 refine Zo Tryz.func133 Tryz.ntmps133 fun c => ?_
 unfold Sh.r3_Decimal at hS
 refine Zq (Zr ?_)
 refine Zy ?_
 refine Zq (Zq (Zr ?_))
 refine Zm ?_
 refine Zu (q_lss rfl rfl) ?_
 refine Zl ?_
 refine Zc hS (fun h5 hS => ?_) (fun h5 hS => ?_)
 ·
  refine Zq (Zq (Zr ?_))
  refine Zm ?_
  refine Zu (q_eql rfl rfl) ?_
  refine Zl ?_
  refine Zc hS (fun h7 hS => ?_) (fun h7 hS => ?_)
  ·
   refine Zq (Zr ?_)
   refine Zy ?_
   cases hS
   exact Ze
  refine Zk ?_
  refine Zq (Zr ?_)
  refine Zm ?_
  obtain ⟨b9, hS⟩ := gd_s hS
  refine Zu (q_sub rfl rfl b9) ?_
  obtain ⟨y10_1, ey10_1, hS⟩ := bd_s hS
  refine Zu (q_call (r3_Decimal_r_ct (0 - n_0) ey10_1) rfl (fun _ _ => rfl)) ?_
  obtain ⟨b11, hS⟩ := gd_s hS
  obtain ⟨y11_2, ey11_2, hS⟩ := lt_s hS
  refine Zu (q_catE rfl rfl b11 ey11_2) ?_
  refine Zy ?_
  cases hS
  exact Ze
 refine Zk ?_
 refine Zq (Zr ?_)
 refine Zm ?_
 obtain ⟨b13, hS⟩ := gd_s hS
 refine Zu (q_rem rfl rfl b13) ?_
 obtain ⟨b14, hS⟩ := gd_s hS
 refine Zu (q_add rfl rfl b14) ?_
 obtain ⟨b15, hS⟩ := gd_s hS
 refine Zu (q_conv Tryz.underlying3 Tryz.underlying5 rfl (wu8_in b15)) ?_
 obtain ⟨b16_15, hS⟩ := gd_s hS
 obtain ⟨u16_4, eu16_4, hS⟩ := lt_s hS
 refine VL.setv 15 rfl (congrArg (Value.int .u8) (u8_z b16_15 eu16_4)) ?_
 refine VL.lit (α := UInt8) (xs := [.tmp 15]) (vs := [.int .u8 (u16_4.toNat : Int)]) [u16_4] Tryz.underlying27 glit5 (by decide) rfl rfl rfl rfl (by decide) (fun _ _ _ _ => trivial) (by decide) (fun s16_3 hs16_3 => ?_) (by decide)
 replace hS := lt_to hs16_3 hS
 refine Zu (q_b2s (s := s16_3) Tryz.underlying27 Tryz.underlying5 Tryz.underlying9 rfl) ?_
 refine Zy ?_
 refine VC.keep [0, 3] rfl ?_
 refine Zq (Zb ?_)
 refine VC.iter (S := Int × Str) (fun sg => (sg.1, sg.2)) (fun sg => [(0, i64 sg.1), (3, str sg.2)]) (fun sg => Mo.tt) (fun sg => Ow.emp) (n_0, s16_3.l) [0, 3] hS rfl ?_
 clear hS
 rintro ⟨n0_6, s3_7⟩ m1 y1 hS hK1
 refine Zq (Zq (Zr ?_))
 refine Zm ?_
 refine Zu (q_geq rfl rfl) ?_
 refine Zl ?_
 refine Zc hS (fun h19 hS => ?_) (fun h19 hS => ?_)
 ·
  refine Zk ?_
  refine Zb (Zq (Zr ?_))
  refine Zm ?_
  obtain ⟨b21, hS⟩ := gd_s hS
  refine Zu (q_quo rfl rfl b21.1 (wi64_in b21.2)) ?_
  refine Zy ?_
  refine Zr ?_
  refine Zm ?_
  obtain ⟨b23, hS⟩ := gd_s hS
  refine Zu (q_rem rfl rfl b23) ?_
  obtain ⟨b24, hS⟩ := gd_s hS
  refine Zu (q_add rfl rfl b24) ?_
  obtain ⟨b25, hS⟩ := gd_s hS
  refine Zu (q_conv Tryz.underlying3 Tryz.underlying5 rfl (wu8_in b25)) ?_
  obtain ⟨b26_25, hS⟩ := gd_s hS
  obtain ⟨u26_9, eu26_9, hS⟩ := lt_s hS
  refine VL.setv 25 rfl (congrArg (Value.int .u8) (u8_z b26_25 eu26_9)) ?_
  refine VL.lit (α := UInt8) (xs := [.tmp 25]) (vs := [.int .u8 (u26_9.toNat : Int)]) [u26_9] Tryz.underlying27 glit5 (by decide) rfl rfl rfl rfl (by decide) (fun _ _ _ _ => trivial) (by decide) (fun s26_8 hs26_8 => ?_) (by decide)
  replace hS := lt_to hs26_8 hS
  refine Zu (q_b2s (s := s26_8) Tryz.underlying27 Tryz.underlying5 Tryz.underlying9 rfl) ?_
  refine Zm ?_
  obtain ⟨b29, hS⟩ := gd_s hS
  obtain ⟨y29_11, ey29_11, hS⟩ := lt_s hS
  refine Zu (q_catE rfl rfl b29 ey29_11) ?_
  refine Za ?_
  refine VL.rnd ((n0_6 / 10), y29_11) [0, 3] (fun _ _ h => h) (go2 hS hK1) rfl
 replace hS := up2 hS hK1
 refine Zx ?_
 refine Zq (Zr ?_)
 refine Zy ?_
 cases hS
 exact Ze
theorem r3_Word_ct (e_0 : Int) {r : Str} (hS : Sh.r3_Word e_0 = some r) :
 Ct Tryz.prog 134 [i64 e_0] Mo.tt (Ow.emp) (X := Unit) (fun _ => str r) (fun _ => True) (fun _ => Mo.tt) (fun _ => Ow.emp) := by
 refine Zo Tryz.func134 Tryz.ntmps134 fun c => ?_
 unfold Sh.r3_Word at hS
 refine Zq (Zr ?_)
 refine Zy ?_
 refine Zq (Zr ?_)
 refine VL.lit (α := Str) (xs := [.const (str [111, 107]), .const (str [97, 114, 103]), .const (str [102, 111, 114, 109]), .const (str [115, 104, 111, 114, 116]), .const (str [108, 111, 110, 103]), .const (str [110, 97, 109, 101]), .const (str [116, 119, 105, 99, 101]), .const (str [115, 116, 97, 116, 101]), .const (str [100, 105, 114, 116, 121]), .const (str [99, 111, 110, 102, 108, 105, 99, 116]), .const (str [115, 97, 109, 101]), .const (str [119, 97, 121]), .const (str [115, 117, 109]), .const (str [100, 111, 119, 110]), .const (str [113, 117, 111, 116, 97])]) (vs := [str [111, 107], str [97, 114, 103], str [102, 111, 114, 109], str [115, 104, 111, 114, 116], str [108, 111, 110, 103], str [110, 97, 109, 101], str [116, 119, 105, 99, 101], str [115, 116, 97, 116, 101], str [100, 105, 114, 116, 121], str [99, 111, 110, 102, 108, 105, 99, 116], str [115, 97, 109, 101], str [119, 97, 121], str [115, 117, 109], str [100, 111, 119, 110], str [113, 117, 111, 116, 97]]) [[111, 107], [97, 114, 103], [102, 111, 114, 109], [115, 104, 111, 114, 116], [108, 111, 110, 103], [110, 97, 109, 101], [116, 119, 105, 99, 101], [115, 116, 97, 116, 101], [100, 105, 114, 116, 121], [99, 111, 110, 102, 108, 105, 99, 116], [115, 97, 109, 101], [119, 97, 121], [115, 117, 109], [100, 111, 119, 110], [113, 117, 111, 116, 97]] Tryz.underlying82 glit9 (by decide) rfl rfl rfl rfl (by decide) (fun _ _ _ _ => trivial) (by decide) (fun s4_1 hs4_1 => ?_) (by decide)
 replace hS := lt_to hs4_1 hS
 refine Zy ?_
 refine Zq ?_
 refine VC.cutJ (S := Bool) (fun (x12_3 : Bool) => x12_3) (fun (x12_3 : Bool) => [(0, i64 e_0), (3, s4_1.val), (12, .bool x12_3)]) (fun (x12_3 : Bool) => Mo.tt) (fun (x12_3 : Bool) => Ow.emp) hS ?_ ?_
 ·
  clear hS
  intro k4 hS
  refine Zr ?_
  refine Zm ?_
  refine Zu (q_lss rfl rfl) ?_
  refine Zm ?_
  refine Zsp 7 hS (fun h7 hS => ?_) (fun h7 hS => ?_)
  ·
   refine Zy ?_
   refine VL.mt true [0, 3, 12] (fun _ _ h => h) hS rfl
  refine Zy ?_
  refine Zh (q_ln (s := s4_1) Tryz.underlying82 rfl) ?_
  refine Zh (q_geq rfl rfl) ?_
  refine Zf ?_
  refine VL.mt (decide ((s4_1.l.length : Int) ≤ e_0)) [0, 3, 12] (fun _ _ h => h) hS rfl
 clear hS
 rintro x12_3 hS
 refine Zcb hS (fun h12 hS => ?_) (fun h12 hS => ?_)
 ·
  refine Zq (Zr ?_)
  refine Zy ?_
  cases hS
  exact Ze
 refine Zk ?_
 refine Zq (Zr ?_)
 refine Zy ?_
 obtain ⟨z15_5, nz15_5, hz15_5, hS⟩ := at_s hS
 refine Zu (q_ixm (s := s4_1) Tryz.underlying82 gsz9 rfl rfl nz15_5 (lt_of_get nz15_5 hz15_5)) ?_
 refine Zu (q_el (s := s4_1) gone9 rfl hz15_5 rfl) ?_
 refine Zy ?_
 cases hS
 exact Ze
theorem r3_Words_ct (w_0 : Rectoref3Wrong) {r : Str} (hS : Sh.r3_Words w_0.pl = some r) :
 Ct Tryz.prog 67 [.agg #[w_0.parts.val, i64 w_0.err]] w_0.parts.ok (Ow.emp) (X := Unit) (fun _ => str r) (fun _ => True) (fun _ => Mo.tt) (fun _ => Ow.emp) := by
 refine Zo Tryz.func67 Tryz.ntmps67 fun c => ?_
 unfold Sh.r3_Words at hS
 refine Zq (Zr ?_)
 refine VL.box (cs := [w_0.parts.val, i64 w_0.err]) rfl rfl (by decide) fun b1_1 => ?_
 refine Zy ?_
 refine Zq (Zr ?_)
 refine Zy ?_
 refine Zq (Zq (Zr ?_))
 refine Zy ?_
 refine Zb ?_
 refine VC.iter (S := Str × Int) (fun sg => (sg.1, sg.2)) (fun sg => [(1, ptr b1_1 0), (3, str sg.1), (4, i64 sg.2)]) (fun sg => Mo.tt) (fun sg => Ow.star (Blk b1_1 [w_0.parts.val, i64 w_0.err] 54) (Ow.emp)) ([], 0) [1, 3, 4] hS rfl ?_
 clear hS
 rintro ⟨s3_2, i4_3⟩ m1 y1 hS hK1
 refine Zq (Zq (Zr ?_))
 refine Zm ?_
 refine Zu (q_field gfa54_0 rfl) ?_
 refine Zu (q_fe gone52 rfl rfl) ?_
 refine Zu (q_ln (s := w_0.parts) Tryz.underlying52 rfl) ?_
 refine Zu (q_lss rfl rfl) ?_
 refine Zl ?_
 refine Zc hS (fun h9 hS => ?_) (fun h9 hS => ?_)
 ·
  refine Zk ?_
  refine Zq (Zb ?_)
  refine VC.draw ((List.range 19).map fun k => (k, true)) mixed (by kernel_rfl) (by kernel_rfl) (by kernel_rfl) ?_
  refine Zw rfl (q_move rfl) ?_
  refine Zw rfl (q_field gfa54_0 rfl) ?_
  refine Zw rfl (q_fe gone52 rfl rfl) ?_
  refine Zw rfl (q_move rfl) ?_
  obtain ⟨z16_4, nz16_4, hz16_4, hS⟩ := at_s hS
  refine Zw rfl (q_ixm (s := w_0.parts) Tryz.underlying52 gsz137 rfl rfl nz16_4 (lt_of_get nz16_4 hz16_4)) ?_
  refine Zw rfl (q_field gfa137_0 rfl) ?_
  refine Zw rfl (q_elf (s := w_0.parts) gone9 rfl hz16_4 rfl) ?_
  obtain ⟨b19, hS⟩ := gd_s hS
  obtain ⟨y19_5, ey19_5, hS⟩ := lt_s hS
  refine Zw rfl (q_catE rfl rfl b19 ey19_5) ?_
  obtain ⟨b20, hS⟩ := gd_s hS
  obtain ⟨y20_6, ey20_6, hS⟩ := lt_s hS
  refine Zw rfl (q_catE rfl rfl b20 ey20_6) ?_
  refine Zw rfl (q_field gfa54_0 rfl) ?_
  refine Zw rfl (q_fe gone52 rfl rfl) ?_
  refine Zw rfl (q_move rfl) ?_
  obtain ⟨z24_7, nz24_7, hz24_7, hS⟩ := at_s hS
  refine Zw rfl (q_ixm (s := w_0.parts) Tryz.underlying52 gsz137 rfl rfl nz24_7 (lt_of_get nz24_7 hz24_7)) ?_
  refine Zw rfl (q_field gfa137_1 rfl) ?_
  refine Zw rfl (q_elf (s := w_0.parts) gone3 rfl hz24_7 rfl) ?_
  obtain ⟨y27_8, ey27_8, hS⟩ := bd_s hS
  refine Zw rfl (q_call (r3_Decimal_ct z24_7.at_ ey27_8) rfl (fun _ _ => rfl)) ?_
  obtain ⟨b28, hS⟩ := gd_s hS
  obtain ⟨y28_9, ey28_9, hS⟩ := lt_s hS
  refine Zw rfl (q_catE rfl rfl b28 ey28_9) ?_
  obtain ⟨b29, hS⟩ := gd_s hS
  obtain ⟨y29_10, ey29_10, hS⟩ := lt_s hS
  refine Zw rfl (q_catE rfl rfl b29 ey29_10) ?_
  refine Zw rfl (q_assign rfl) ?_
  refine VD.to (fun _ _ h => h) ?_
  refine VC.keep [1, 3, 4] rfl ?_
  refine Zr ?_
  refine Zm ?_
  obtain ⟨b11, hS⟩ := gd_s hS
  refine Zu (q_add rfl rfl b11) ?_
  refine Za ?_
  refine VL.rnd (y29_10, (i4_3 + 1)) [1, 3, 4] (fun _ _ h => h) (go2 hS hK1) rfl
 replace hS := up2 hS hK1
 refine Zx ?_
 refine Zq (Zr ?_)
 refine Zm ?_
 refine Zu (q_field gfa54_1 rfl) ?_
 refine Zu (q_fe gone3 rfl rfl) ?_
 obtain ⟨y33_11, ey33_11, hS⟩ := bd_s hS
 refine Zu (q_call (r3_Word_ct w_0.err ey33_11) rfl (fun _ _ => rfl)) ?_
 obtain ⟨b34, hS⟩ := gd_s hS
 obtain ⟨y34_12, ey34_12, hS⟩ := lt_s hS
 refine Zu (q_catE rfl rfl b34 ey34_12) ?_
 refine Zy ?_
 refine VC.keep [2] rfl ?_
 cases hS
 exact Ze
theorem l2_Tells_ct (err_0 : Er) (w_1 : Rectoref3Wrong) {r : Bool} (hS : Sh.l2_Tells err_0.pl w_1.pl = some r) :
 Ct Tryz.prog 20 [err_0.val, .agg #[w_1.parts.val, i64 w_1.err]] (err_0.ok.and (w_1.parts.ok.and Gl)) (Ow.emp) (X := Unit) (fun _ => .bool r) (fun _ => True) (fun _ => Mo.tt) (fun _ => Ow.emp) := by
 refine Zo Tryz.func20 Tryz.ntmps20 fun c => ?_
 unfold Sh.l2_Tells at hS
 refine Zq (Zr ?_)
 refine VL.box (cs := [w_1.parts.val, i64 w_1.err]) rfl rfl (by decide) fun b3_1 => ?_
 refine Zy ?_
 refine Zq (Zq (Zr ?_))
 refine Zu (q_field gfa54_1 rfl) ?_
 refine Zu (q_fe gone3 rfl rfl) ?_
 refine Zu (q_eql rfl rfl) ?_
 refine Zl ?_
 refine Zc hS (fun h8 hS => ?_) (fun h8 hS => ?_)
 ·
  refine Zq (Zr ?_)
  refine Zm ?_
  refine Zu (q_ereq Tryz.underlying29 rfl) ?_
  refine Zy ?_
  cases hS
  exact Ze
 refine Zk ?_
 refine Zq ?_
 refine VC.cutJ (S := Bool) (fun (x27_2 : Bool) => x27_2) (fun (x27_2 : Bool) => [(0, err_0.val), (3, ptr b3_1 0), (27, .bool x27_2)]) (fun (x27_2 : Bool) => Mo.tt) (fun (x27_2 : Bool) => Ow.star (Blk b3_1 [w_1.parts.val, i64 w_1.err] 54) (Ow.emp)) hS ?_ ?_
 ·
  clear hS
  intro k3 hS
  refine VC.draw ((List.range 17).map fun k => (k, true)) mixed (by kernel_rfl) (by kernel_rfl) (by kernel_rfl) ?_
  refine Zw rfl (q_move rfl) ?_
  refine Zw rfl (q_ereq Tryz.underlying29 rfl) ?_
  refine Zw rfl (q_move rfl) ?_
  refine VD.split_dec 13 rfl (fun h13 => ?_) (fun h13 => ?_)
  ·
   replace hS := it_t h13 hS
   refine Zd ?_
   refine Zd ?_
   refine Zd ?_
   refine Zd ?_
   refine Zd ?_
   refine Zw rfl (q_pick_t rfl rfl) ?_
   refine Zw rfl (q_move rfl) ?_
   refine Zd ?_
   refine Zd ?_
   refine Zd ?_
   refine Zd ?_
   refine Zd ?_
   refine Zd ?_
   refine Zw rfl (q_pick_t rfl rfl) ?_
   refine VD.mt true [0, 3, 27] (fun _ _ h => h) hS rfl
  replace hS := it_f h13 hS
  refine Zi rfl (q_move rfl) ?_
  obtain ⟨y15_4, ey15_4, hS⟩ := bd_s hS
  refine Zi rfl (q_say rfl (text_says err_0 ey15_4)) ?_
  refine Zi rfl (q_fes gagg54 rfl rfl) ?_
  obtain ⟨y17_5, ey17_5, hS⟩ := bd_s hS
  refine Zi rfl (q_call (r3_Words_ct w_1 ey17_5) rfl (fun _ _ => rfl)) ?_
  refine Zi rfl (q_sne rfl rfl) ?_
  refine Zw rfl (q_pick_f rfl rfl) ?_
  refine Zw rfl (q_move rfl) ?_
  refine VD.split_ndec 20 rfl (fun h20 => ?_) (fun h20 => ?_)
  ·
   replace hS := it_f h20 hS
   refine Zd ?_
   refine Zd ?_
   refine Zd ?_
   refine Zd ?_
   refine Zd ?_
   refine Zd ?_
   refine Zw rfl (q_pick_t rfl rfl) ?_
   refine VD.mt true [0, 3, 27] (fun _ _ h => h) hS rfl
  replace hS := it_t h20 hS
  refine Zi rfl (q_move rfl) ?_
  refine Zi rfl (q_field gfa54_1 rfl) ?_
  refine Zi rfl (q_fe gone3 rfl rfl) ?_
  refine Zi rfl (q_mkif Tryz.underlying115 (fun _ h => by cases h) rfl) ?_
  refine Zi rfl (q_call (is_ct err_0 w_1.err) rfl (fun _ _ => rfl)) ?_
  refine Zi rfl (q_not rfl) ?_
  refine Zw rfl (q_pick_f rfl rfl) ?_
  refine VD.mt (!decide (endNo err_0.pl = some w_1.err)) [0, 3, 27] (fun _ _ h => h) hS rfl
 clear hS
 rintro x27_2 hS
 refine Zcb hS (fun h27 hS => ?_) (fun h27 hS => ?_)
 ·
  refine Zq (Zr ?_)
  refine Zy ?_
  cases hS
  exact Ze
 refine Zk ?_
 refine Zq (Zq (Zr ?_))
 refine Zu (q_field gfa54_0 rfl) ?_
 refine Zu (q_fe gone52 rfl rfl) ?_
 refine Zu (q_ln (s := w_1.parts) Tryz.underlying52 rfl) ?_
 refine Zu (q_eql rfl rfl) ?_
 refine Zl ?_
 refine Zc hS (fun h31 hS => ?_) (fun h31 hS => ?_)
 ·
  refine Zq (Zr ?_)
  refine Zy ?_
  cases hS
  exact Ze
 refine Zk ?_
 refine Zq (Zr ?_)
 refine VL.alloc (cs := [.pointer none]) (by kernel_rfl) (by decide) fun b5_6 => ?_
 refine Zl ?_
 refine Zq (Zq (Zr ?_))
 refine Zm ?_
 refine Zu (q_mkif Tryz.underlying135 (fun _ h => by cases h) rfl) ?_
 rcases err_0 with _ | _ | ⟨eb7, ep7, ea7, ez7⟩
 ·
  exact absurd hS (by simp [Er.pl])
 ·
  exact absurd hS (by simp [Er.pl])
 dsimp only [Er.pl] at hS
 refine VL.addM (Cells eb7 0 [str ep7, i64 ea7, ez7.val]) (fun _ m => (InM.out (X := (Er.fault eb7 ep7 ea7 ez7).ok) _ m).1) ?_
 refine VL.addM ez7.ok (fun _ m => (InM.out (X := (Er.fault eb7 ep7 ea7 ez7).ok) _ m.2).2) ?_
 refine VL.callO (As.as_ct eb7 b5_6) rfl (by decide) ?_
 rintro _ _
 refine Zu (q_not rfl) ?_
 refine Zm ?_
 refine Zh (q_fe gone114 rfl rfl) ?_
 refine Zh (q_peqn Tryz.underlying114 rfl) ?_
 refine Zy ?_
 refine VC.keep [3, 5, 39] rfl ?_
 refine VC.cond_f rfl ?_
 refine Zk ?_
 refine Zq ?_
 refine VC.draw ((List.range 23).map fun k => (k, true)) mixed (by kernel_rfl) (by kernel_rfl) (by kernel_rfl) ?_
 refine Zw rfl (q_fe gone114 rfl rfl) ?_
 refine Zw rfl (q_nilCheck rfl) ?_
 refine Zw rfl (q_field gfa117_0 rfl) ?_
 refine Zw rfl (q_fm gone9 rfl rfl) ?_
 refine Zw rfl (q_field gfa54_0 rfl) ?_
 refine Zw rfl (q_fe gone52 rfl rfl) ?_
 obtain ⟨z46_8, nz46_8, hz46_8, hS⟩ := at_s hS
 refine Zw rfl (q_ixm (s := w_1.parts) Tryz.underlying52 gsz137 rfl rfl nz46_8 (lt_of_get nz46_8 hz46_8)) ?_
 refine Zw rfl (q_field gfa137_0 rfl) ?_
 refine Zw rfl (q_elf (s := w_1.parts) gone9 rfl hz46_8 rfl) ?_
 refine Zw rfl (q_seq rfl rfl) ?_
 refine Zw rfl (q_move rfl) ?_
 refine VD.split_dec 50 rfl (fun h50 => ?_) (fun h50 => ?_)
 ·
  replace hS := it_t h50 hS
  refine Zi rfl (q_fe gone114 rfl rfl) ?_
  refine Zi rfl (q_nilCheck rfl) ?_
  refine Zi rfl (q_field gfa117_1 rfl) ?_
  refine Zi rfl (q_fm gone3 rfl rfl) ?_
  refine Zi rfl (q_field gfa54_0 rfl) ?_
  refine Zi rfl (q_fe gone52 rfl rfl) ?_
  obtain ⟨z57_9, nz57_9, hz57_9, hS⟩ := at_s hS
  refine Zi rfl (q_ixm (s := w_1.parts) Tryz.underlying52 gsz137 rfl rfl nz57_9 (lt_of_get nz57_9 hz57_9)) ?_
  refine Zi rfl (q_field gfa137_1 rfl) ?_
  refine Zi rfl (q_elf (s := w_1.parts) gone3 rfl hz57_9 rfl) ?_
  refine Zi rfl (q_eql rfl rfl) ?_
  refine Zw rfl (q_pick_t rfl rfl) ?_
  refine Zw rfl (q_assign rfl) ?_
  refine VD.to (fun _ _ h => h) ?_
  refine VC.keep [4] rfl ?_
  cases hS
  exact Ze
 replace hS := it_f h50 hS
 refine Zd ?_
 refine Zd ?_
 refine Zd ?_
 refine Zd ?_
 refine Zd ?_
 refine Zd ?_
 refine Zd ?_
 refine Zd ?_
 refine Zd ?_
 refine Zd ?_
 refine Zw rfl (q_pick_f rfl rfl) ?_
 refine Zw rfl (q_assign rfl) ?_
 refine VD.to (fun _ _ h => h) ?_
 refine VC.keep [4] rfl ?_
 cases hS
 exact Ze
theorem r14_Same_ct (a_0 : Sv Rectoref14File) (b_1 : Sv Rectoref14File) {r : Bool} (hS : Sh.r14_Same a_0.l b_1.l = some r) :
 Ct Tryz.prog 25 [a_0.val, b_1.val] (a_0.ok.and b_1.ok) (Ow.emp) (X := Unit) (fun _ => .bool r) (fun _ => True) (fun _ => Mo.tt) (fun _ => Ow.emp) := by
 refine Zo Tryz.func25 Tryz.ntmps25 fun c => ?_
 unfold Sh.r14_Same at hS
 refine Zq (Zr ?_)
 refine Zy ?_
 refine Zq (Zq (Zr ?_))
 refine Zm ?_
 refine Zu (q_ln (s := a_0) Tryz.underlying48 rfl) ?_
 refine Zm ?_
 refine Zu (q_ln (s := b_1) Tryz.underlying48 rfl) ?_
 refine Zu (q_neq rfl rfl) ?_
 refine Zl ?_
 refine Zcn hS (fun h10 hS => ?_) (fun h10 hS => ?_)
 ·
  refine Zq (Zr ?_)
  refine Zy ?_
  cases hS
  exact Ze
 refine Zk ?_
 refine Zq (Zq (Zr ?_))
 refine Zy ?_
 refine Zb ?_
 refine VC.iter (S := Int) (fun (i5_1 : Int) => i5_1) (fun (i5_1 : Int) => [(0, a_0.val), (1, b_1.val), (5, i64 i5_1)]) (fun (i5_1 : Int) => Mo.tt) (fun (i5_1 : Int) => Ow.emp) 0 [0, 1, 5] hS rfl ?_
 clear hS
 rintro i5_1 m1 y1 hS hK1
 refine Zq (Zq (Zr ?_))
 refine Zy ?_
 refine Zu (q_ln (s := a_0) Tryz.underlying48 rfl) ?_
 refine Zu (q_lss rfl rfl) ?_
 refine Zl ?_
 refine Zc hS (fun h14 hS => ?_) (fun h14 hS => ?_)
 ·
  refine Zk ?_
  refine Zq (Zb (Zq ?_))
  refine VC.draw ((List.range 9).map fun k => (k, true)) mixed (by kernel_rfl) (by kernel_rfl) (by kernel_rfl) ?_
  refine Zw rfl (q_move rfl) ?_
  refine Zw rfl (q_move rfl) ?_
  obtain ⟨z19_2, nz19_2, hz19_2, hS⟩ := at_s hS
  refine Zw rfl (q_ixm (s := a_0) Tryz.underlying48 gsz45 rfl rfl nz19_2 (lt_of_get nz19_2 hz19_2)) ?_
  refine Zw rfl (q_els (s := a_0) gagg45 rfl rfl hz19_2) ?_
  refine Zw rfl (q_move rfl) ?_
  refine Zw rfl (q_move rfl) ?_
  obtain ⟨z23_3, nz23_3, hz23_3, hS⟩ := at_s hS
  refine Zw rfl (q_ixm (s := b_1) Tryz.underlying48 gsz45 rfl rfl nz23_3 (lt_of_get nz23_3 hz23_3)) ?_
  refine Zw rfl (q_els (s := b_1) gagg45 rfl rfl hz23_3) ?_
  refine Zw rfl (q_stneq geqg45 (geqs45 z19_2.path z19_2.mode z19_2.data z23_3.path z23_3.mode z23_3.data) rfl rfl) ?_
  refine VD.to (fun _ _ h => h) ?_
  refine VC.keep [0, 1, 5, 25] rfl ?_
  refine Zcn hS (fun h25 hS => ?_) (fun h25 hS => ?_)
  ·
   refine Zq (Zr ?_)
   refine Zy ?_
   replace hS := up2 hS hK1
   cases hS
   exact Ze
  refine Zk ?_
  refine Zr ?_
  refine Zm ?_
  obtain ⟨b16, hS⟩ := gd_s hS
  refine Zu (q_add rfl rfl b16) ?_
  refine Za ?_
  refine VL.rnd (i5_1 + 1) [0, 1, 5] (fun _ _ h => h) (go2 hS hK1) rfl
 replace hS := up2 hS hK1
 refine Zx ?_
 refine Zq (Zr ?_)
 refine Zy ?_
 cases hS
 exact Ze
theorem l15_Of_ct (l_0 : Sv IndexEntry) {r : List Rectoref14Entry} (hS : Sh.l15_Of l_0.l = some r) :
 Ct Tryz.prog 34 [l_0.val] l_0.ok (Ow.emp) (X := Sv Rectoref14Entry) (fun x => x.val) (fun x => r = x.l) (fun x => Mo.tt) (fun x => Sv.own x 152) := by
 refine Zo Tryz.func34 Tryz.ntmps34 fun c => ?_
 unfold Sh.l15_Of at hS
 refine Zq (Zr ?_)
 refine Zy ?_
 refine Zq (Zr ?_)
 refine Zy ?_
 refine Zq (Zq (Zr ?_))
 refine Zy ?_
 refine Zb ?_
 refine VC.nilO (⟨none, 0, []⟩ : Sv Rectoref14Entry) 152 ⟨rfl, rfl⟩ ?_
 refine VC.iter (S := Sv Rectoref14Entry × Int) (fun sg => (sg.1.l, sg.2)) (fun sg => [(0, l_0.val), (3, sg.1.val), (4, i64 sg.2)]) (fun sg => Mo.tt) (fun sg => Ow.star (Sv.own sg.1 152) (Ow.emp)) (⟨none, 0, []⟩, 0) [0, 3, 4] hS rfl ?_
 clear hS
 rintro ⟨out3_1, i4_2⟩ m1 y1 hS hK1
 refine Zq (Zq (Zr ?_))
 refine Zy ?_
 refine Zu (q_ln (s := l_0) Tryz.underlying66 rfl) ?_
 refine Zu (q_lss rfl rfl) ?_
 refine Zl ?_
 refine Zc hS (fun h9 hS => ?_) (fun h9 hS => ?_)
 ·
  refine Zk ?_
  refine Zq (Zb (Zq (Zr ?_)))
  refine Zy ?_
  obtain ⟨z14_3, nz14_3, hz14_3, hS⟩ := at_s hS
  refine Zu (q_ixm (s := l_0) Tryz.underlying66 gsz149 rfl rfl nz14_3 (lt_of_get nz14_3 hz14_3)) ?_
  refine Zu (q_els (s := l_0) gagg149 rfl rfl hz14_3) ?_
  refine VL.alloc (cs := [str [], i64 0, i64 0, str [], i64 0, i64 0]) (by kernel_rfl) (by decide) fun b5_4 => ?_
  refine Zv (vc := [str z14_3.path, i64 z14_3.stage, i64 z14_3.mode, str z14_3.data, i64 z14_3.time, i64 z14_3.size]) (cs' := [str z14_3.path, i64 z14_3.stage, i64 z14_3.mode, str z14_3.data, i64 z14_3.time, i64 z14_3.size]) rfl gsz149 ?_
  refine Zl ?_
  refine VC.keep [0, 3, 4, 5] rfl ?_
  refine Zr ?_
  refine Zm ?_
  refine Zu (q_field gfa149_0 rfl) ?_
  refine Zu (q_fe gone9 rfl rfl) ?_
  refine Zu (q_field gfa149_1 rfl) ?_
  refine Zu (q_fe gone3 rfl rfl) ?_
  refine Zu (q_field gfa149_2 rfl) ?_
  refine Zu (q_fe gone3 rfl rfl) ?_
  refine Zu (q_field gfa149_3 rfl) ?_
  refine Zu (q_fe gone9 rfl rfl) ?_
  refine Zu (q_field gfa149_4 rfl) ?_
  refine Zu (q_fe gone3 rfl rfl) ?_
  refine Zu (q_field gfa149_5 rfl) ?_
  refine Zu (q_fe gone3 rfl rfl) ?_
  refine Zu (q_build (vs := [(0, str z14_3.path), (1, i64 z14_3.stage), (2, i64 z14_3.mode), (3, str z14_3.data), (4, i64 z14_3.time), (5, i64 z14_3.size)]) (cs := #[str z14_3.path, i64 z14_3.stage, i64 z14_3.mode, str z14_3.data, i64 z14_3.time, i64 z14_3.size]) rfl (by kernel_rfl)) ?_
  refine VL.lit (α := Rectoref14Entry) (xs := [.tmp 29]) (vs := [.agg #[str z14_3.path, i64 z14_3.stage, i64 z14_3.mode, str z14_3.data, i64 z14_3.time, i64 z14_3.size]]) [⟨z14_3.path, z14_3.stage, z14_3.mode, z14_3.data, z14_3.time, z14_3.size⟩] Tryz.underlying68 glit152 (by decide) rfl rfl rfl rfl (by decide) (fun _ _ _ _ => trivial) (by decide) (fun s30_5 hs30_5 => ?_) (by decide)
  replace hS := lt_to hs30_5 hS
  obtain ⟨b31, hS⟩ := gd_s hS
  refine VL.app (s := out3_1) (r := s30_5) Tryz.underlying68 gapp152 (by decide) rfl Fo.out (ap1 b31) (ap2 b31 (by decide)) (by decide) (fun s31_7 hs31_7 => ?_)
  replace hS := lt_to hs31_7 hS
  refine Zy ?_
  refine VC.keep [0, 3, 4] rfl ?_
  refine Zr ?_
  refine Zm ?_
  obtain ⟨b11, hS⟩ := gd_s hS
  refine Zu (q_add rfl rfl b11) ?_
  refine Za ?_
  refine VL.rnd (s31_7, (i4_2 + 1)) [0, 3, 4] (fun _ _ h => h) (go2 hS hK1) rfl
 replace hS := up2 hS hK1
 refine Zx ?_
 refine Zq (Zr ?_)
 refine Zy ?_
 cases hS
 exact VC.ret (fin1 (.inr rfl) rfl rfl out3_1 rfl rfl (by (try dsimp only); exact InM.out) (by (try dsimp only); exact EntO.out))
theorem l15_All_ct (a_0 : Sv IndexEntry) (b_1 : Sv Rectoref14Entry) {r : Bool} (hS : Sh.l15_All a_0.l b_1.l = some r) :
 Ct Tryz.prog 42 [a_0.val, b_1.val] (a_0.ok.and b_1.ok) (Ow.emp) (X := Unit) (fun _ => .bool r) (fun _ => True) (fun _ => Mo.tt) (fun _ => Ow.emp) := by
 refine Zo Tryz.func42 Tryz.ntmps42 fun c => ?_
 unfold Sh.l15_All at hS
 refine Zq (Zr ?_)
 refine Zy ?_
 refine Zq (Zr ?_)
 refine Zm ?_
 obtain ⟨y8_1, ey8_1, hS⟩ := bd_s hS
 refine VL.callO (l15_Of_ct a_0 ey8_1) rfl (by decide) ?_
 rintro q8_1_0 rfl
 try dsimp only
 refine Zy ?_
 refine Zq (Zq (Zr ?_))
 refine Zm ?_
 refine Zu (q_ln (s := q8_1_0) Tryz.underlying68 rfl) ?_
 refine Zm ?_
 refine Zu (q_ln (s := b_1) Tryz.underlying68 rfl) ?_
 refine Zu (q_neq rfl rfl) ?_
 refine Zl ?_
 refine VC.keep [1, 5, 13] rfl ?_
 refine Zcn hS (fun h13 hS => ?_) (fun h13 hS => ?_)
 ·
  refine Zq (Zr ?_)
  refine Zy ?_
  cases hS
  exact Ze
 refine Zk ?_
 refine Zq (Zq (Zr ?_))
 refine Zy ?_
 refine Zb ?_
 refine VC.iter (S := Int) (fun (i6_2 : Int) => i6_2) (fun (i6_2 : Int) => [(1, b_1.val), (5, q8_1_0.val), (6, i64 i6_2)]) (fun (i6_2 : Int) => Mo.tt) (fun (i6_2 : Int) => Ow.star (Sv.own q8_1_0 152) (Ow.emp)) 0 [1, 5, 6] hS rfl ?_
 clear hS
 rintro i6_2 m1 y1 hS hK1
 refine Zq (Zq (Zr ?_))
 refine Zy ?_
 refine Zu (q_ln (s := q8_1_0) Tryz.underlying68 rfl) ?_
 refine Zu (q_lss rfl rfl) ?_
 refine Zl ?_
 refine Zc hS (fun h17 hS => ?_) (fun h17 hS => ?_)
 ·
  refine Zk ?_
  refine Zq (Zb (Zq ?_))
  refine VC.draw ((List.range 9).map fun k => (k, true)) mixed (by kernel_rfl) (by kernel_rfl) (by kernel_rfl) ?_
  refine Zw rfl (q_move rfl) ?_
  refine Zw rfl (q_move rfl) ?_
  obtain ⟨z22_3, nz22_3, hz22_3, hS⟩ := at_s hS
  refine Zw rfl (q_ixo (s := q8_1_0) Tryz.underlying68 gsz152 rfl rfl nz22_3 (lt_of_get nz22_3 hz22_3)) ?_
  refine Zw rfl (q_elso (s := q8_1_0) gagg152 rfl rfl hz22_3) ?_
  refine Zw rfl (q_move rfl) ?_
  refine Zw rfl (q_move rfl) ?_
  obtain ⟨z26_4, nz26_4, hz26_4, hS⟩ := at_s hS
  refine Zw rfl (q_ixm (s := b_1) Tryz.underlying68 gsz152 rfl rfl nz26_4 (lt_of_get nz26_4 hz26_4)) ?_
  refine Zw rfl (q_els (s := b_1) gagg152 rfl rfl hz26_4) ?_
  refine Zw rfl (q_stneq geqg152 (geqs152 z22_3.path z22_3.stage z22_3.mode z22_3.data z22_3.time z22_3.size z26_4.path z26_4.stage z26_4.mode z26_4.data z26_4.time z26_4.size) rfl rfl) ?_
  refine VD.to (fun _ _ h => h) ?_
  refine VC.keep [1, 5, 6, 28] rfl ?_
  refine Zcn hS (fun h28 hS => ?_) (fun h28 hS => ?_)
  ·
   refine Zq (Zr ?_)
   refine Zy ?_
   replace hS := up2 hS hK1
   cases hS
   exact Ze
  refine Zk ?_
  refine Zr ?_
  refine Zm ?_
  obtain ⟨b19, hS⟩ := gd_s hS
  refine Zu (q_add rfl rfl b19) ?_
  refine Za ?_
  refine VL.rnd (i6_2 + 1) [1, 5, 6] (fun _ _ h => h) (go2 hS hK1) rfl
 replace hS := up2 hS hK1
 refine Zx ?_
 refine Zq (Zr ?_)
 refine Zy ?_
 cases hS
 exact Ze
theorem l1_texts_ct (a_0 : Sv Str) (b_1 : Sv Str) {r : Bool} (hS : Sh.l1_texts a_0.l b_1.l = some r) :
 Ct Tryz.prog 101 [a_0.val, b_1.val] (a_0.ok.and b_1.ok) (Ow.emp) (X := Unit) (fun _ => .bool r) (fun _ => True) (fun _ => Mo.tt) (fun _ => Ow.emp) := by
 refine Zo Tryz.func101 Tryz.ntmps101 fun c => ?_
 unfold Sh.l1_texts at hS
 refine Zq (Zr ?_)
 refine Zy ?_
 refine Zq (Zq (Zr ?_))
 refine Zm ?_
 refine Zu (q_ln (s := a_0) Tryz.underlying82 rfl) ?_
 refine Zm ?_
 refine Zu (q_ln (s := b_1) Tryz.underlying82 rfl) ?_
 refine Zu (q_neq rfl rfl) ?_
 refine Zl ?_
 refine Zcn hS (fun h10 hS => ?_) (fun h10 hS => ?_)
 ·
  refine Zq (Zr ?_)
  refine Zy ?_
  cases hS
  exact Ze
 refine Zk ?_
 refine Zq (Zq (Zr ?_))
 refine Zy ?_
 refine Zb ?_
 refine VC.iter (S := Int) (fun (i5_1 : Int) => i5_1) (fun (i5_1 : Int) => [(0, a_0.val), (1, b_1.val), (5, i64 i5_1)]) (fun (i5_1 : Int) => Mo.tt) (fun (i5_1 : Int) => Ow.emp) 0 [0, 1, 5] hS rfl ?_
 clear hS
 rintro i5_1 m1 y1 hS hK1
 refine Zq (Zq (Zr ?_))
 refine Zy ?_
 refine Zu (q_ln (s := a_0) Tryz.underlying82 rfl) ?_
 refine Zu (q_lss rfl rfl) ?_
 refine Zl ?_
 refine Zc hS (fun h14 hS => ?_) (fun h14 hS => ?_)
 ·
  refine Zk ?_
  refine Zq (Zb (Zq ?_))
  refine VC.draw ((List.range 9).map fun k => (k, true)) mixed (by kernel_rfl) (by kernel_rfl) (by kernel_rfl) ?_
  refine Zw rfl (q_move rfl) ?_
  refine Zw rfl (q_move rfl) ?_
  obtain ⟨z19_2, nz19_2, hz19_2, hS⟩ := at_s hS
  refine Zw rfl (q_ixm (s := a_0) Tryz.underlying82 gsz9 rfl rfl nz19_2 (lt_of_get nz19_2 hz19_2)) ?_
  refine Zw rfl (q_el (s := a_0) gone9 rfl hz19_2 rfl) ?_
  refine Zw rfl (q_move rfl) ?_
  refine Zw rfl (q_move rfl) ?_
  obtain ⟨z23_3, nz23_3, hz23_3, hS⟩ := at_s hS
  refine Zw rfl (q_ixm (s := b_1) Tryz.underlying82 gsz9 rfl rfl nz23_3 (lt_of_get nz23_3 hz23_3)) ?_
  refine Zw rfl (q_el (s := b_1) gone9 rfl hz23_3 rfl) ?_
  refine Zw rfl (q_sne rfl rfl) ?_
  refine VD.to (fun _ _ h => h) ?_
  refine VC.keep [0, 1, 5, 25] rfl ?_
  refine Zcn hS (fun h25 hS => ?_) (fun h25 hS => ?_)
  ·
   refine Zq (Zr ?_)
   refine Zy ?_
   replace hS := up2 hS hK1
   cases hS
   exact Ze
  refine Zk ?_
  refine Zr ?_
  refine Zm ?_
  obtain ⟨b16, hS⟩ := gd_s hS
  refine Zu (q_add rfl rfl b16) ?_
  refine Za ?_
  refine VL.rnd (i5_1 + 1) [0, 1, 5] (fun _ _ h => h) (go2 hS hK1) rfl
 replace hS := up2 hS hK1
 refine Zx ?_
 refine Zq (Zr ?_)
 refine Zy ?_
 cases hS
 exact Ze
theorem l1_Texts_ct (a_0 : Sv Str) (b_1 : Sv Str) {r : Bool} (hS : Sh.l1_Texts a_0.l b_1.l = some r) :
 Ct Tryz.prog 43 [a_0.val, b_1.val] (a_0.ok.and b_1.ok) (Ow.emp) (X := Unit) (fun _ => .bool r) (fun _ => True) (fun _ => Mo.tt) (fun _ => Ow.emp) := by
 refine Zo Tryz.func43 Tryz.ntmps43 fun c => ?_
 unfold Sh.l1_Texts at hS
 refine Zq (Zr ?_)
 refine Zy ?_
 refine Zq (Zr ?_)
 refine Zy ?_
 obtain ⟨y7_1, ey7_1, hS⟩ := bd_s hS
 refine Zu (q_call (l1_texts_ct a_0 b_1 ey7_1) rfl (fun _ _ => rfl)) ?_
 refine Zy ?_
 cases hS
 exact Ze
theorem l16_Result_ct (a_0 : TmergeResult) (b_1 : Rectoref14Result) {r : Bool} (hS : Sh.l16_Result a_0.pl b_1.pl = some r) :
 Ct Tryz.prog 48 [.agg #[a_0.files.val, a_0.entries.val, a_0.conflicts.val], .agg #[b_1.files.val, b_1.entries.val, b_1.conflicts.val]] (a_0.files.ok.and (a_0.entries.ok.and (a_0.conflicts.ok.and (b_1.files.ok.and (b_1.entries.ok.and b_1.conflicts.ok))))) (Ow.emp) (X := Unit) (fun _ => .bool r) (fun _ => True) (fun _ => Mo.tt) (fun _ => Ow.emp) := by
 refine Zo Tryz.func48 Tryz.ntmps48 fun c => ?_
 unfold Sh.l16_Result at hS
 refine Zq (Zr ?_)
 refine VL.box (cs := [a_0.files.val, a_0.entries.val, a_0.conflicts.val]) rfl rfl (by decide) fun b2_1 => ?_
 refine VL.box (cs := [b_1.files.val, b_1.entries.val, b_1.conflicts.val]) rfl rfl (by decide) fun b3_2 => ?_
 refine Zy ?_
 refine Zq ?_
 refine VC.draw [(0, true), (1, true), (3, true), (4, true), (2, false), (5, true), (6, true), (7, true), (8, true), (9, true), (10, true), (11, true), (12, true), (13, true), (14, true), (15, true), (16, true), (17, true), (18, true), (19, true), (20, true)] mixed (by kernel_rfl) (by kernel_rfl) (by kernel_rfl) ?_
 refine Zw rfl (q_field gfa86_0 rfl) ?_
 refine Zw rfl (q_fe gone38 rfl rfl) ?_
 refine Zw rfl (q_field gfa90_0 rfl) ?_
 refine Zw rfl (q_fe gone48 rfl rfl) ?_
 refine VD.one rfl ?_
 obtain ⟨y7_3, ey7_3, hS⟩ := bd_s hS
 refine VL.callO (l14_Of_ct a_0.files ey7_3) rfl (by decide) ?_
 rintro q7_3_0 rfl
 try dsimp only
 refine VL.back (D' := [(4, b_1.files.val), (3, ptr b3_2 0)]) (by kernel_rfl) (Pend.cons rfl (q_fe gone48 rfl rfl) (Pend.cons rfl (q_field gfa90_0 rfl) (Pend.nil))) ?_
 obtain ⟨y10_4, ey10_4, hS⟩ := bd_s hS
 refine Zw rfl (q_callR (r14_Same_ct q7_3_0 b_1.files ey10_4) rfl (fun _ _ => rfl)) ?_
 refine Zw rfl (q_move rfl) ?_
 refine VD.split 11 rfl (fun h11 => ?_) (fun h11 => ?_)
 ·
  replace hS := it_t h11 hS
  refine Zi rfl (q_field gfa86_1 rfl) ?_
  refine Zi rfl (q_fe gone66 rfl rfl) ?_
  refine Zi rfl (q_field gfa90_1 rfl) ?_
  refine Zi rfl (q_fe gone68 rfl rfl) ?_
  obtain ⟨y16_5, ey16_5, hS⟩ := bd_s hS
  refine Zi rfl (q_call (l15_All_ct a_0.entries b_1.entries ey16_5) rfl (fun _ _ => rfl)) ?_
  refine Zw rfl (q_pick_t rfl rfl) ?_
  refine Zw rfl (q_move rfl) ?_
  refine VD.split 18 rfl (fun h18 => ?_) (fun h18 => ?_)
  ·
   replace hS := it_t h18 hS
   refine Zi rfl (q_field gfa86_2 rfl) ?_
   refine Zi rfl (q_fe gone82 rfl rfl) ?_
   refine Zi rfl (q_field gfa90_2 rfl) ?_
   refine Zi rfl (q_fe gone82 rfl rfl) ?_
   obtain ⟨y23_6, ey23_6, hS⟩ := bd_s hS
   refine Zi rfl (q_call (l1_Texts_ct a_0.conflicts b_1.conflicts ey23_6) rfl (fun _ _ => rfl)) ?_
   refine Zw rfl (q_pick_t rfl rfl) ?_
   refine Zw rfl (q_assign rfl) ?_
   refine VD.to (fun _ _ h => h) ?_
   refine VC.keep [4] rfl ?_
   cases hS
   exact Ze
  replace hS := it_b h18 hS
  refine Zd ?_
  refine Zd ?_
  refine Zd ?_
  refine Zd ?_
  refine Zd ?_
  refine Zw rfl (q_pick_f rfl rfl) ?_
  refine Zw rfl (q_assign rfl) ?_
  refine VD.to (fun _ _ h => h) ?_
  refine VC.keep [4] rfl ?_
  cases hS
  exact Ze
 replace hS := it_b h11 hS
 refine Zd ?_
 refine Zd ?_
 refine Zd ?_
 refine Zd ?_
 refine Zd ?_
 refine Zw rfl (q_pick_f rfl rfl) ?_
 refine Zw rfl (q_move rfl) ?_
 refine Zd ?_
 refine Zd ?_
 refine Zd ?_
 refine Zd ?_
 refine Zd ?_
 refine Zw rfl (q_pick_f rfl rfl) ?_
 refine Zw rfl (q_assign rfl) ?_
 refine VD.to (fun _ _ h => h) ?_
 refine VC.keep [4] rfl ?_
 cases hS
 exact Ze
theorem l16_TreesMerge_ct (b_0 : Sv FilesFile) (o_1 : Sv FilesFile) (t_2 : Sv FilesFile) (x_3 : Str) (y_4 : Str) {r : Bool} (hS : Sh.l16_TreesMerge b_0.l o_1.l t_2.l x_3 y_4 = some r) :
 Ct Tryz.prog 7 [b_0.val, o_1.val, t_2.val, str x_3, str y_4] (b_0.ok.and (o_1.ok.and (t_2.ok.and Gl))) (Ow.emp) (X := Unit) (fun _ => .bool r) (fun _ => True) (fun _ => Mo.tt) (fun _ => Ow.emp) := by
 refine Zo Tryz.func7 Tryz.ntmps7 fun c => ?_
 unfold Sh.l16_TreesMerge at hS
 refine Zq (Zr ?_)
 refine Zy ?_
 refine Zq (Zq (Zr ?_))
 obtain ⟨y15_1, ey15_1, hS⟩ := bd_s hS
 refine Zu (q_call (l16_known_ct ey15_1) rfl (fun _ _ => rfl)) ?_
 refine Zu (q_not rfl) ?_
 refine Zl ?_
 refine Zcb hS (fun h16 hS => ?_) (fun h16 hS => ?_)
 ·
  refine Zq (Zr ?_)
  refine Zy ?_
  cases hS
  exact Ze
 refine Zk ?_
 refine Zq ?_
 refine VC.cutJ (S := Bool) (fun (x54_2 : Bool) => x54_2) (fun (x54_2 : Bool) => [(0, b_0.val), (1, o_1.val), (2, t_2.val), (3, str x_3), (4, str y_4), (54, .bool x54_2)]) (fun (x54_2 : Bool) => Mo.tt) (fun (x54_2 : Bool) => Ow.emp) hS ?_ ?_
 ·
  clear hS
  intro k3 hS
  refine Zr ?_
  refine Zm ?_
  obtain ⟨y18_4, ey18_4, hS⟩ := bd_s hS
  refine Zu (q_call (l14_Few_ct b_0 ey18_4) rfl (fun _ _ => rfl)) ?_
  refine Zu (q_not rfl) ?_
  refine Zm ?_
  refine Zspb 20 hS (fun h20 hS => ?_) (fun h20 hS => ?_)
  ·
   refine Zy ?_
   refine VL.mt true [0, 1, 2, 3, 4, 54] (fun _ _ h => h) hS rfl
  refine Zg ?_
  obtain ⟨y22_5, ey22_5, hS⟩ := bd_s hS
  refine Zh (q_call (l14_Few_ct o_1 ey22_5) rfl (fun _ _ => rfl)) ?_
  refine Zh (q_not rfl) ?_
  refine Zy ?_
  refine Zspb 25 hS (fun h25 hS => ?_) (fun h25 hS => ?_)
  ·
   refine Zy ?_
   refine VL.mt true [0, 1, 2, 3, 4, 54] (fun _ _ h => h) hS rfl
  refine Zg ?_
  obtain ⟨y27_6, ey27_6, hS⟩ := bd_s hS
  refine Zh (q_call (l14_Few_ct t_2 ey27_6) rfl (fun _ _ => rfl)) ?_
  refine Zh (q_not rfl) ?_
  refine Zy ?_
  refine Zspb 30 hS (fun h30 hS => ?_) (fun h30 hS => ?_)
  ·
   refine Zy ?_
   refine VL.mt true [0, 1, 2, 3, 4, 54] (fun _ _ h => h) hS rfl
  refine Zg ?_
  obtain ⟨y32_7, ey32_7, hS⟩ := bd_s hS
  refine Zh (q_call (l16_short_ct b_0 ey32_7) rfl (fun _ _ => rfl)) ?_
  refine Zh (q_not rfl) ?_
  refine Zy ?_
  refine Zspb 35 hS (fun h35 hS => ?_) (fun h35 hS => ?_)
  ·
   refine Zy ?_
   refine VL.mt true [0, 1, 2, 3, 4, 54] (fun _ _ h => h) hS rfl
  refine Zg ?_
  obtain ⟨y37_8, ey37_8, hS⟩ := bd_s hS
  refine Zh (q_call (l16_short_ct o_1 ey37_8) rfl (fun _ _ => rfl)) ?_
  refine Zh (q_not rfl) ?_
  refine Zy ?_
  refine Zspb 40 hS (fun h40 hS => ?_) (fun h40 hS => ?_)
  ·
   refine Zy ?_
   refine VL.mt true [0, 1, 2, 3, 4, 54] (fun _ _ h => h) hS rfl
  refine Zg ?_
  obtain ⟨y42_9, ey42_9, hS⟩ := bd_s hS
  refine Zh (q_call (l16_short_ct t_2 ey42_9) rfl (fun _ _ => rfl)) ?_
  refine Zh (q_not rfl) ?_
  refine Zy ?_
  refine Zspb 45 hS (fun h45 hS => ?_) (fun h45 hS => ?_)
  ·
   refine Zy ?_
   refine VL.mt true [0, 1, 2, 3, 4, 54] (fun _ _ h => h) hS rfl
  refine Zg ?_
  refine Zh (q_slen Tryz.underlying9 rfl) ?_
  refine Zh (q_gtr rfl rfl) ?_
  refine Zy ?_
  refine Zsp 50 hS (fun h50 hS => ?_) (fun h50 hS => ?_)
  ·
   refine Zy ?_
   refine VL.mt true [0, 1, 2, 3, 4, 54] (fun _ _ h => h) hS rfl
  refine Zg ?_
  refine Zh (q_slen Tryz.underlying9 rfl) ?_
  refine Zh (q_gtr rfl rfl) ?_
  refine Zf ?_
  refine VL.mt (decide (50 < (y_4.length : Int))) [0, 1, 2, 3, 4, 54] (fun _ _ h => h) hS rfl
 clear hS
 rintro x54_2 hS
 refine Zcb hS (fun h54 hS => ?_) (fun h54 hS => ?_)
 ·
  refine Zq (Zr ?_)
  refine Zy ?_
  cases hS
  exact Ze
 refine Zk ?_
 refine Zq (Zr ?_)
 refine Zy ?_
 obtain ⟨y61_10, ey61_10, hS⟩ := bd_s hS
 refine VL.callF (tmerge_Merge_ct b_0 o_1 t_2 x_3 y_4 ey61_10) rfl (by decide) ?_
 rintro ⟨q61_10_0, q61_10_1⟩ rfl
 try dsimp only
 refine Zm ?_
 refine Zu (q_extract rfl rfl) ?_
 refine Zu (q_extract rfl rfl) ?_
 refine VL.alloc (cs := [.slice none 0 0, .slice none 0 0, .slice none 0 0]) (by kernel_rfl) (by decide) fun b11_11 => ?_
 refine Zv (vc := [q61_10_0.files.val, q61_10_0.entries.val, q61_10_0.conflicts.val]) (cs' := [q61_10_0.files.val, q61_10_0.entries.val, q61_10_0.conflicts.val]) rfl gsz86 ?_
 refine Zy ?_
 refine VC.keep [0, 1, 2, 3, 4, 11, 12] rfl ?_
 refine Zq (Zr ?_)
 refine Zm ?_
 obtain ⟨y66_12, ey66_12, hS⟩ := bd_s hS
 refine VL.callO (l14_Of_ct b_0 ey66_12) rfl (by decide) ?_
 rintro q66_12_0 rfl
 try dsimp only
 refine Zm ?_
 obtain ⟨y68_13, ey68_13, hS⟩ := bd_s hS
 refine VL.callO (l14_Of_ct o_1 ey68_13) rfl (by decide) ?_
 rintro q68_13_0 rfl
 try dsimp only
 refine Zm ?_
 obtain ⟨y70_14, ey70_14, hS⟩ := bd_s hS
 refine VL.callO (l14_Of_ct t_2 ey70_14) rfl (by decide) ?_
 rintro q70_14_0 rfl
 try dsimp only
 refine Zy ?_
 refine VL.shut q66_12_0 45 (fun _ _ _ _ => trivial) ?_
 refine VL.shut q68_13_0 45 (fun _ _ _ _ => trivial) ?_
 refine VL.shut q70_14_0 45 (fun _ _ _ _ => trivial) ?_
 obtain ⟨y73_15, ey73_15, hS⟩ := bd_s hS
 refine VL.callF (r14_Merge_ct q66_12_0 q68_13_0 q70_14_0 x_3 y_4 ey73_15) rfl (by decide) ?_
 rintro ⟨q73_15_0, q73_15_1⟩ rfl
 try dsimp only
 refine Zm ?_
 refine Zu (q_extract rfl rfl) ?_
 refine Zu (q_extract rfl rfl) ?_
 refine VL.alloc (cs := [.slice none 0 0, .slice none 0 0, .slice none 0 0]) (by kernel_rfl) (by decide) fun b13_16 => ?_
 refine VL.alloc (cs := [.slice none 0 0, i64 0]) (by kernel_rfl) (by decide) fun b14_17 => ?_
 refine Zv (vc := [q73_15_0.files.val, q73_15_0.entries.val, q73_15_0.conflicts.val]) (cs' := [q73_15_0.files.val, q73_15_0.entries.val, q73_15_0.conflicts.val]) rfl gsz90 ?_
 refine Zv (vc := [q73_15_1.parts.val, i64 q73_15_1.err]) (cs' := [q73_15_1.parts.val, i64 q73_15_1.err]) rfl gsz54 ?_
 refine Zl ?_
 refine VC.keep [11, 12, 13, 14] rfl ?_
 refine Zq (Zr ?_)
 refine Zm ?_
 refine Zu (q_fes gagg54 rfl rfl) ?_
 obtain ⟨y78_18, ey78_18, hS⟩ := bd_s hS
 refine Zu (q_call (l2_Tells_ct q61_10_1 q73_15_1 ey78_18) rfl (fun _ _ => rfl)) ?_
 refine Zm ?_
 refine Zspb 79 hS (fun h79 hS => ?_) (fun h79 hS => ?_)
 ·
  refine Zh (q_fes gagg86 rfl rfl) ?_
  refine Zh (q_fes gagg90 rfl rfl) ?_
  obtain ⟨y82_19, ey82_19, hS⟩ := bd_s hS
  refine Zh (q_call (l16_Result_ct (⟨q61_10_0.files, q61_10_0.entries, q61_10_0.conflicts⟩ : TmergeResult) (⟨q73_15_0.files, q73_15_0.entries, q73_15_0.conflicts⟩ : Rectoref14Result) ey82_19) rfl (fun _ _ => rfl)) ?_
  refine Zy ?_
  refine VC.keep [10] rfl ?_
  cases hS
  exact Ze
 refine Zy ?_
 refine VC.keep [10] rfl ?_
 cases hS
 exact Ze
end Go.Proofs.YtleokmhhloamaaaGreatDoor
end

section
namespace Go.S
theorem at_get {α : Type} {l : List α} {i : Int} (h0 : 0 ≤ i) (h : i < l.length) : ∃ z, l[i.toNat]? = some z := ⟨_, List.getElem?_eq_getElem (by omega)⟩
theorem eqloop {α : Type} [DecidableEq α] (P : α → α → Prop) [∀ z w, Decidable (P z w)] (hP : ∀ z w, P z w ↔ z = w) (l r : List α) (hl : (l.length : Int) = r.length) (hb : (l.length : Int) ≤ 1000000000) (B : Int → Option (Int ⊕ Bool))
    (hB : ∀ i, B i = if i < (l.length : Int) then (at_ l i).bind (fun z => (at_ r i).bind (fun w => if P z w then gd (I64 (i + 1)) (go (i + 1)) else up (some false))) else up (some true)) : iter B 0 = some (decide (l = r)) := by
  apply Ok.eq
  refine ok_iter (I := fun i => 0 ≤ i ∧ i ≤ l.length ∧ l.take i.toNat = r.take i.toNat) (μ := fun i => (l.length - i).toNat) ?_ ⟨by omega, by omega, rfl⟩
  rintro i ⟨h0, h1, h2⟩
  rw [hB]
  simp only [ok_if, ok_up, ok_bd, ok_gd, ok_go, ok_some, ok_at]
  refine ⟨fun h => ?_, fun h => ?_⟩
  · obtain ⟨z, hz⟩ := at_get h0 h
    obtain ⟨w, hw⟩ := at_get (l := r) h0 (by omega)
    refine ⟨h0, z, hz, h0, w, hw, fun hp => ?_, fun hp => ?_⟩
    · have e := (hP z w).1 hp
      refine ⟨⟨by omega, by omega⟩, ⟨by omega, by omega, ?_⟩, by omega⟩
      rw [show (i + 1).toNat = i.toNat + 1 by omega, List.take_add_one, List.take_add_one, h2, hz, hw, e]
    · have e : z ≠ w := fun e => hp ((hP z w).2 e)
      refine (decide_eq_false fun q => e ?_).symm
      subst q
      rw [hz] at hw
      exact Option.some.inj hw
  · have e : i.toNat = l.length := by omega
    rw [e, List.take_length] at h2
    rw [show l.length = r.length by omega, List.take_length] at h2
    exact (decide_eq_true h2).symm
end Go.S
end

section
namespace Go.S
theorem get_lt {α : Type} {l : List α} {i : Nat} {x : α} (h : l[i]? = some x) : i < l.length := (List.getElem?_eq_some_iff.1 h).1
theorem at_last {α : Type} (l : List α) (z : α) : (l ++ [z])[(((l ++ [z]).length : Int) - 1).toNat]? = some z := by
  rw [show ((((l ++ [z]).length : Int) - 1).toNat) = l.length by simp]
  simp
theorem take_snoc {α : Type} {l : List α} {i : Int} {z : α} (h0 : 0 ≤ i) (h : l[i.toNat]? = some z) : l.take (i + 1).toNat = l.take i.toNat ++ [z] := by
  rw [show (i + 1).toNat = i.toNat + 1 by omega, List.take_add_one, h]; rfl
theorem ok_jnP {S R : Type} {K : S → Option R} {F : (S → Option R) → Option R} {Q : R → Prop} (P : S → Prop) (hK : ∀ s, P s → Ok (K s) Q) (hF : ∀ K' : S → Option R, (∀ s, P s → Ok (K' s) Q) → Ok (F K') Q) : Ok (jn K F) Q := hF K hK
theorem byte_eq {z : UInt8} {n : Nat} (hn : n < 256) : ((z.toNat : Int) = n) ↔ z = UInt8.ofNat n := by
  constructor
  · intro h
    apply UInt8.toNat_inj.1
    simp [Nat.mod_eq_of_lt hn]; omega
  · intro h
    subst h
    simp [Nat.mod_eq_of_lt hn]
theorem mid1 {α : Type} {s : List α} {i : Int} {z : α} (h0 : 0 ≤ i) (h : s[i.toNat]? = some z) : (s.drop i.toNat).take ((i + 1).toNat - i.toNat) = [z] := by
  obtain ⟨h1, h2⟩ := List.getElem?_eq_some_iff.1 h
  rw [show (i + 1).toNat - i.toNat = 1 by omega, List.drop_eq_getElem_cons h1, h2]
  rfl
end Go.S
end

section
namespace Go.S
open Go
def spl (c : UInt8) : List UInt8 → List (List UInt8)
  | [] => [[]]
  | x :: r => if x = c then [] :: spl c r else match spl c r with
    | [] => [[x]]
    | y :: l => (x :: y) :: l
theorem spl_ne (c : UInt8) : ∀ s, spl c s ≠ []
  | [] => by simp [spl]
  | x :: r => by
    unfold spl
    split
    · simp
    · split <;> simp
theorem spl_len (c : UInt8) : ∀ s, (spl c s).length = s.count c + 1
  | [] => by simp [spl]
  | x :: r => by
    have ih := spl_len c r
    unfold spl
    by_cases h : x = c
    · simp [h, ih]
    · rw [if_neg h, List.count_cons_of_ne (by simpa using h)]
      cases hq : spl c r with
      | nil => exact absurd hq (spl_ne c r)
      | cons y l => rw [hq] at ih; simpa using ih
theorem spl_no {c : UInt8} : ∀ {s : List UInt8}, c ∉ s → spl c s = [s]
  | [], _ => rfl
  | x :: r, h => by
    have hx : x ≠ c := fun e => h (by simp [e])
    rw [spl, if_neg hx, spl_no fun e => h (List.mem_cons_of_mem _ e)]
theorem spl_at {c : UInt8} : ∀ {a : List UInt8} (b : List UInt8), c ∉ a → spl c (a ++ c :: b) = a :: spl c b
  | [], b, _ => by simp [spl]
  | x :: a, b, h => by
    have hx : x ≠ c := fun e => h (by simp [e])
    rw [List.cons_append, spl, if_neg hx, spl_at b fun e => h (List.mem_cons_of_mem _ e)]
theorem spl_snoc (c x : UInt8) : ∀ s, ∃ l y, spl c s = l ++ [y] ∧ spl c (s ++ [x]) = if x = c then l ++ [y, []] else l ++ [y ++ [x]]
  | [] => ⟨[], [], rfl, by by_cases h : x = c <;> simp [spl, h]⟩
  | z :: r => by
    obtain ⟨l, y, h1, h2⟩ := spl_snoc c x r
    by_cases hz : z = c
    · refine ⟨[] :: l, y, by simp [spl, hz, h1], ?_⟩
      rw [List.cons_append, spl, if_pos hz, h2]
      split <;> rfl
    · cases l with
      | nil =>
        refine ⟨[], z :: y, by simp [spl, hz, h1], ?_⟩
        rw [List.cons_append, spl, if_neg hz, h2]
        by_cases hx : x = c <;> simp [hx]
      | cons a l =>
        refine ⟨(z :: a) :: l, y, by simp [spl, hz, h1], ?_⟩
        rw [List.cons_append, spl, if_neg hz, h2]
        by_cases hx : x = c <;> simp [hx]
theorem ix_at {c : UInt8} : ∀ {a : List UInt8} (b : List UInt8), c ∉ a → Lib.indexByte (a ++ c :: b) c = a.length
  | [], b, _ => by simp [Lib.indexByte]
  | x :: a, b, h => by
    have hx : (x == c) = false := by simpa using fun e : x = c => h (by simp [e])
    rw [List.cons_append, Lib.indexByte, hx, ix_at b fun e => h (List.mem_cons_of_mem _ e)]
    simp
theorem split_mem {c : UInt8} {s : List UInt8} (h : c ∈ s) : ∃ a b, s = a ++ c :: b ∧ c ∉ a := by
  induction s with
  | nil => cases h
  | cons x r ih =>
    by_cases hx : x = c
    · exact ⟨[], r, by simp [hx], by simp⟩
    · rcases List.mem_cons.1 h with q | q
      · exact absurd q.symm hx
      · obtain ⟨a, b, e, hn⟩ := ih q
        exact ⟨x :: a, b, by simp [e], by simp [hn, Ne.symm hx]⟩
theorem byte_of (c : UInt8) : (c.toNat : Int).toNat.toUInt8 = c := by simp
theorem ixB_eq (s : List UInt8) (c : UInt8) : ixB s (c.toNat : Int) = Lib.indexByte s c := by unfold ixB; rw [byte_of]
theorem index_ok (s : List UInt8) (c : UInt8) : Sh.internal_stringslite_Index s [c] = some (Lib.indexByte s c) := by
  apply Ok.eq
  unfold Sh.internal_stringslite_Index
  simp only [ok_jn, ok_if, ok_bd, ok_some, ok_at]
  refine ⟨fun h => by simp at h, fun _ => ⟨fun h => ?_, fun _ => ⟨fun _ => ⟨by omega, c, rfl, ?_⟩, fun h => by simp at h⟩⟩⟩
  · have : s = [c] := by simpa using (of_decide_eq_true h).symm
    rw [this]; simp [Lib.indexByte]
  · unfold Sh.internal_stringslite_IndexByte
    rw [ixB_eq]; exact Ok.of rfl rfl
theorem sindex_ok (s : List UInt8) (c : UInt8) : Sh.strings_Index s [c] = some (Lib.indexByte s c) := by
  unfold Sh.strings_Index
  rw [index_ok]; rfl
theorem count_ok (s : List UInt8) (c : UInt8) : Sh.strings_Count s [c] = some (s.count c : Int) := by
  apply Ok.eq
  unfold Sh.strings_Count
  rw [if_neg (by simp), if_pos (by simp)]
  simp only [ok_bd, ok_at, ok_some]
  refine ⟨by omega, c, rfl, ?_⟩
  unfold cntB Lib.countByte
  rw [byte_of]
theorem split_ok {s : List UInt8} (c : UInt8) (hs : s.length ≤ 1000000000) : Sh.strings_Split s [c] = some (spl c s) := by
  apply Ok.eq
  unfold Sh.strings_Split Sh.strings_genSplit
  rw [ok_bd]
  have hc : s.count c ≤ s.length := List.count_le_length
  simp only [count_ok, ok_jn, ok_if, ok_bd, ok_gd, ok_lt, ok_some, ok_at]
  refine ⟨fun h => by omega, fun _ => ⟨fun h => by simp at h, fun _ => ⟨fun _ => ?_, fun h => by omega⟩⟩⟩
  have hm : (min ((s.count c : Int) + 1) ((s.length : Int) + 1)) = (s.count c : Int) + 1 := by omega
  rw [hm]
  refine ⟨⟨by omega, by omega⟩, ⟨by omega, by omega⟩, ⟨by omega, by omega⟩, ⟨by omega, by omega⟩, ?_⟩
  refine ok_iter (I := fun t => 0 ≤ t.2.2 ∧ t.2.2 + t.1.count c = s.count c ∧ t.2.1.length = s.count c + 1 ∧ t.2.1.take t.2.2.toNat ++ spl c t.1 = spl c s ∧ t.1.length ≤ s.length) (μ := fun t => t.1.length) ?_ ⟨by simp, by simp, by simp, by simp, by simp⟩
  rintro ⟨x, l, i⟩ ⟨i0, i1, i2, i3, i4⟩
  dsimp only at i0 i1 i2 i3 i4 ⊢
  have fin : c ∉ x → Ok (((at_ l i).bind fun z61_20 => lt (l.set i.toNat x) fun ys4_22 => gd (I64 (i + 1)) (gd ((0 : Int) ≤ (i + 1) ∧ (i + 1) ≤ (ys4_22.length : Int)) (lt (ys4_22.take (i + 1).toNat) fun y65_24 => some y65_24)))) (fun a => a = spl c s) := fun hx => by
    rw [spl_no hx] at i3
    rw [List.count_eq_zero_of_not_mem hx] at i1
    simp only [ok_bd, ok_gd, ok_lt, ok_some, ok_at]
    obtain ⟨z, hz⟩ := at_get (l := l) i0 (by omega)
    refine ⟨i0, z, hz, ⟨by omega, by omega⟩, ⟨by omega, by rw [List.length_set]; omega⟩, ?_⟩
    rw [← i3, show (i + 1).toNat = i.toNat + 1 by omega, List.take_add_one, List.getElem?_set, if_pos rfl, if_pos (get_lt hz), List.take_set_of_le (Nat.le_refl _)]
    simp
  simp only [ok_jn, ok_if, ok_up, ok_bd, ok_gd, ok_lt, ok_go, ok_some, ok_at, sindex_ok] at fin ⊢
  refine ⟨fun hi => ?_, fun hi => ?_⟩
  · have hmem : c ∈ x := List.count_pos_iff.1 (by omega)
    obtain ⟨a, b, e, ha⟩ := split_mem hmem
    subst e
    rw [ix_at b ha]
    have hl : (a ++ c :: b).length = a.length + b.length + 1 := by simp; omega
    have hcb : (a ++ c :: b).count c = b.count c + 1 := by simp [List.count_eq_zero_of_not_mem ha]
    obtain ⟨z, hz⟩ := at_get (l := l) i0 (by omega)
    refine ⟨fun h => by omega, fun _ => ⟨⟨by omega, by omega⟩, ⟨by omega, by omega⟩, i0, z, hz, ⟨by simp; omega, by simp; omega⟩, ⟨by simp; omega, by simp; omega⟩, ⟨by omega, by omega⟩, ⟨by omega, ?_, by simpa using i2, ?_, ?_⟩, ?_⟩⟩
    · simp only [List.length_cons, List.length_nil]
      rw [show ((a.length : Int) + ((0 + 1 : Nat) : Int)).toNat = a.length + 1 by omega]
      have : (a ++ c :: b).drop (a.length + 1) = b := by simp
      rw [this]; omega
    · simp only [List.length_cons, List.length_nil]
      rw [show ((a.length : Int) + ((0 + 1 : Nat) : Int)).toNat = a.length + 1 by omega, show ((a.length : Int) + 0).toNat = a.length by omega]
      have e1 : (a ++ c :: b).drop (a.length + 1) = b := by simp
      have e2 : (a ++ c :: b).take a.length = a := by simp
      rw [e1, e2, ← i3, spl_at b ha, show (i + 1).toNat = i.toNat + 1 by omega, List.take_add_one, List.getElem?_set, if_pos rfl, if_pos (get_lt hz), List.take_set_of_le (Nat.le_refl _)]
      simp
    · simp; omega
    · simp; omega
  · exact fin fun hm => by have := List.count_pos_iff.2 hm; omega
theorem spl_part (c : UInt8) : ∀ (s : List UInt8), ∀ y ∈ spl c s, y.length ≤ s.length
  | [], y, h => by simp [spl] at h; simp [h]
  | x :: r, y, h => by
    have ih := spl_part c r
    unfold spl at h
    split at h
    · rcases List.mem_cons.1 h with q | q
      · simp [q]
      · have := ih y q; simp; omega
    · split at h
      · have := List.mem_singleton.1 h; simp [this]
      · next a l hq =>
        rcases List.mem_cons.1 h with q | q
        · have := ih a (by rw [hq]; simp); simp [q]; omega
        · have := ih y (by rw [hq]; simp [q]); simp; omega
end Go.S
end

section
namespace Go.P
def tv (a b : Str) (c : Chunk) : Str := if c.clash then clashv c a b else join c.out
def tvs (a b : Str) (l : List Chunk) : Str := (l.map (tv a b)).flatten
def nclash (l : List Chunk) : Int := (l.filter (·.clash)).length
theorem tvs_take {a b : Str} {l : List Chunk} {k : Int} {c : Chunk} (h0 : 0 ≤ k) (h : l[k.toNat]? = some c) : tvs a b (l.take (k + 1).toNat) = tvs a b (l.take k.toNat) ++ tv a b c := by
  rw [show (k + 1).toNat = k.toNat + 1 by omega, List.take_add_one, h]
  simp [tvs]
theorem nclash_take {l : List Chunk} {k : Int} {c : Chunk} (h0 : 0 ≤ k) (h : l[k.toNat]? = some c) : nclash (l.take (k + 1).toNat) = nclash (l.take k.toNat) + if c.clash then 1 else 0 := by
  rw [show (k + 1).toNat = k.toNat + 1 by omega, List.take_add_one, h]
  cases hc : c.clash <;> simp [nclash, hc]
theorem tvs_take_le (a b : Str) (l : List Chunk) (k : Nat) : (tvs a b (l.take k)).length ≤ (tvs a b l).length := by
  conv => rhs; rw [← List.take_append_drop k l]
  simp only [tvs, List.map_append, List.flatten_append, List.length_append]
  omega
theorem nclash_le (l : List Chunk) : 0 ≤ nclash l ∧ nclash l ≤ l.length := by
  have := List.length_filter_le (·.clash) l
  unfold nclash
  omega
end Go.P
end

section
namespace Go.P
theorem pls_line : ∀ (a b : List Str) (j : Int) (n : Nat) (u : Int), (pls (edits a b) j)[n]? = some u → u = -1 ∨ (j ≤ u ∧ ∃ l, a[n]? = some l ∧ b[(u - j).toNat]? = some l)
  | [], b, j, n, u, h => by
    have := pls_length (edits [] b) j
    rw [(c_edits [] b).1] at this
    have h2 := (List.getElem?_eq_some_iff.1 h).1
    simp at this
    rw [this] at h2; simp at h2
  | x :: a, [], j, n, u, h => by
    rw [edits_nil] at h
    simp only [pls] at h
    rw [if_neg (by decide), if_pos trivial] at h
    cases n with
    | zero => simp at h; exact .inl h.symm
    | succ n =>
      simp only [List.getElem?_cons_succ] at h
      rcases pls_line a [] j n u h with q | ⟨_, l, _, q⟩
      · exact .inl q
      · simp at q
  | x :: a, y :: b, j, n, u, h => by
    rw [edits_cons] at h
    split at h
    · rename_i hxy
      simp only [pls] at h
      rw [if_neg (by decide), if_neg (by decide)] at h
      cases n with
      | zero => simp at h; subst h; exact .inr ⟨Int.le_refl _, x, rfl, by simp [hxy]⟩
      | succ n =>
        simp only [List.getElem?_cons_succ] at h
        rcases pls_line a b (j + 1) n u h with q | ⟨q, l, q1, q2⟩
        · exact .inl q
        · refine .inr ⟨by omega, l, by simpa using q1, ?_⟩
          rw [show (u - j).toNat = (u - (j + 1)).toNat + 1 by omega]
          simpa using q2
    · split at h
      · simp only [pls] at h
        rw [if_neg (by decide), if_pos trivial] at h
        cases n with
        | zero => simp at h; exact .inl h.symm
        | succ n =>
          simp only [List.getElem?_cons_succ] at h
          rcases pls_line a (y :: b) j n u h with q | ⟨q, l, q1, q2⟩
          · exact .inl q
          · exact .inr ⟨q, l, by simpa using q1, q2⟩
      · simp only [pls] at h
        rw [if_pos trivial] at h
        rcases pls_line (x :: a) b (j + 1) n u h with q | ⟨q, l, q1, q2⟩
        · exact .inl q
        · refine .inr ⟨by omega, l, q1, ?_⟩
          rw [show (u - j).toNat = (u - (j + 1)).toNat + 1 by omega]
          simpa using q2
theorem places_line {a b : List Str} {n : Nat} {u : Int} {l : Str} (h : (places a b)[n]? = some u) (h0 : 0 ≤ u) (hl : a[n]? = some l) : b[u.toNat]? = some l := by
  rw [places_pls] at h
  rcases pls_line a b 0 n u h with q | ⟨_, l', q1, q2⟩
  · omega
  · rw [hl] at q1; cases q1
    simpa using q2
theorem chunks_ind (b o t : List Str) (hb : b.length ≤ 256) (ho : o.length ≤ 256) (ht : t.length ≤ 256) (I : Wk → Prop) (h0 : I ⟨0, 0, 0, [], false⟩)
    (step : ∀ (s : Wk) (n u v : Int) (line : Str), I s → 0 ≤ s.i → s.i ≤ n → n < b.length → 0 ≤ s.j → s.j ≤ u → u < o.length → 0 ≤ s.k → s.k ≤ v → v < t.length → (places b o)[n.toNat]? = some u → (places b t)[n.toNat]? = some v →
      b[n.toNat]? = some line → o[u.toNat]? = some line → t[v.toNat]? = some line → I (keepW (put b o t s n u v) line)) :
    ∃ s : Wk, I s ∧ 0 ≤ s.i ∧ s.i ≤ b.length ∧ 0 ≤ s.j ∧ s.j ≤ o.length ∧ 0 ≤ s.k ∧ s.k ≤ t.length ∧ (s.out.length : Int) ≤ 2 * b.length ∧ chunks b o t = (put b o t s b.length o.length t.length).out := by
  have key : ∀ n : Nat, n ≤ b.length → CInv b o t n (wrun b o t (places b o) (places b t) n) ∧ I (wrun b o t (places b o) (places b t) n) := by
    intro n
    induction n with
    | zero => exact fun _ => ⟨cinv_start b o t, h0⟩
    | succ n ih =>
      intro hn
      obtain ⟨hc, hI⟩ := ih (by omega)
      obtain ⟨u, hu⟩ : ∃ u, (places b o)[n]? = some u := ⟨_, List.getElem?_eq_getElem (by rw [places_len]; omega)⟩
      obtain ⟨v, hv⟩ : ∃ v, (places b t)[n]? = some v := ⟨_, List.getElem?_eq_getElem (by rw [places_len]; omega)⟩
      obtain ⟨l, hl⟩ : ∃ l, b[n]? = some l := ⟨_, List.getElem?_eq_getElem (by omega)⟩
      by_cases hk : 0 ≤ u ∧ 0 ≤ v
      · have e : wrun b o t (places b o) (places b t) (n + 1) = keepW (put b o t (wrun b o t (places b o) (places b t) n) n u v) l := by
          simp only [wrun, wstep, hu, hv, hl]; rw [if_pos hk]
        rw [e]
        refine ⟨cinv_keep hc hb ho ht (by simpa using hu) (by simpa using hv) (by simpa using hl) hk.1 hk.2, ?_⟩
        exact step _ n u v l hI hc.i0 hc.i1 (by omega) hc.j0 (hc.ju n u (by omega) hu hk.1) (places_range b o u (List.mem_of_getElem? hu) hk.1) hc.k0 (hc.kv n v (by omega) hv hk.2) (places_range b t v (List.mem_of_getElem? hv) hk.2)
          (by simpa using hu) (by simpa using hv) (by simpa using hl) (places_line hu hk.1 hl) (places_line hv hk.2 hl)
      · have e : wrun b o t (places b o) (places b t) (n + 1) = wrun b o t (places b o) (places b t) n := by
          simp only [wrun, wstep, hu, hv, hl]; rw [if_neg hk]
        rw [e]
        exact ⟨cinv_pass hc (by simpa using hu) (by simpa using hv) (by omega) hk, hI⟩
  obtain ⟨hc, hI⟩ := key b.length (Nat.le_refl _)
  exact ⟨_, hI, hc.i0, hc.i1, hc.j0, hc.j1, hc.k0, hc.k1, hc.len, rfl⟩
def Kept (x : Chunk) : Prop := x.ours = x.base ∧ x.theirs = x.base ∧ x.out = x.base ∧ x.clash = false
def Good (x : Chunk) : Prop := Kept x ∨ x = gapv x.base x.ours x.theirs
theorem gapv_parts (b o t : List Str) : (gapv b o t).base = b ∧ (gapv b o t).ours = o ∧ (gapv b o t).theirs = t := by
  unfold gapv; (repeat' split) <;> exact ⟨rfl, rfl, rfl⟩
theorem gapv_good (b o t : List Str) : Good (gapv b o t) := .inr (by obtain ⟨h1, h2, h3⟩ := gapv_parts b o t; rw [h1, h2, h3])
theorem take_sl {l : List Str} {a c : Int} (h0 : 0 ≤ a) (h : a ≤ c) : l.take a.toNat ++ sl l a c = l.take c.toNat := by
  unfold sl
  rw [show c.toNat = a.toNat + (c.toNat - a.toNat) by omega, List.take_add, show a.toNat + (c.toNat - a.toNat) - a.toNat = c.toNat - a.toNat by omega]
structure WInv (b o t : List Str) (s : Wk) : Prop where
  base : s.out.flatMap (·.base) = b.take s.i.toNat
  ours : s.out.flatMap (·.ours) = o.take s.j.toNat
  theirs : s.out.flatMap (·.theirs) = t.take s.k.toNat
  good : ∀ c ∈ s.out, Good c
  op : s.op = true → ∃ fr x, s.out = fr ++ [x] ∧ Kept x
theorem WInv.put {b o t : List Str} {s : Wk} (h : WInv b o t s) {i j k : Int} (i0 : 0 ≤ s.i) (i1 : s.i ≤ i) (j0 : 0 ≤ s.j) (j1 : s.j ≤ j) (k0 : 0 ≤ s.k) (k1 : s.k ≤ k) : WInv b o t (put b o t s i j k) := by
  obtain ⟨h1, h2, h3, h4, h5⟩ := h
  obtain ⟨g1, g2, g3⟩ := gapv_parts (sl b s.i i) (sl o s.j j) (sl t s.k k)
  unfold P.put
  split
  · refine ⟨?_, ?_, ?_, fun c hc => ?_, fun q => by cases q⟩
    · simp only [List.flatMap_append, h1, List.flatMap_cons, List.flatMap_nil, List.append_nil, g1, take_sl i0 i1]
    · simp only [List.flatMap_append, h2, List.flatMap_cons, List.flatMap_nil, List.append_nil, g2, take_sl j0 j1]
    · simp only [List.flatMap_append, h3, List.flatMap_cons, List.flatMap_nil, List.append_nil, g3, take_sl k0 k1]
    · rcases List.mem_append.1 hc with q | q
      · exact h4 c q
      · cases List.mem_singleton.1 q; exact gapv_good _ _ _
  · have e1 : i = s.i := by omega
    have e2 : j = s.j := by omega
    have e3 : k = s.k := by omega
    subst e1; subst e2; subst e3
    exact ⟨h1, h2, h3, h4, h5⟩
theorem addL_kept {x : Chunk} {l : Str} (h : Kept x) : Kept (addL x l) := by
  obtain ⟨h1, h2, h3, h4⟩ := h
  simp [Kept, addL, h1, h2, h3, h4]
theorem keep_flat {s : Wk} {line : Str} (f : Chunk → List Str) (hf : ∀ x l, f (addL x l) = f x ++ [l]) (hn : f nilC = []) (hop : s.op = true → ∃ fr x, s.out = fr ++ [x] ∧ Kept x) : (keepW s line).out.flatMap f = s.out.flatMap f ++ [line] := by
  unfold keepW
  cases h : s.op with
  | true =>
    obtain ⟨fr, x, hx, _⟩ := hop h
    simp [hx, hf]
  | false => simp [hf, hn]
theorem take_snoc {l : List Str} {n : Int} {z : Str} (h0 : 0 ≤ n) (h : l[n.toNat]? = some z) : l.take n.toNat ++ [z] = l.take (n + 1).toNat := by
  rw [show (n + 1).toNat = n.toNat + 1 by omega, List.take_add_one, h]; rfl
theorem WInv.keep {b o t : List Str} {s : Wk} {line : Str} (h : WInv b o t s) (i0 : 0 ≤ s.i) (j0 : 0 ≤ s.j) (k0 : 0 ≤ s.k) (h1 : b[s.i.toNat]? = some line) (h2 : o[s.j.toNat]? = some line) (h3 : t[s.k.toNat]? = some line) : WInv b o t (keepW s line) := by
  refine ⟨?_, ?_, ?_, fun c hc => ?_, fun _ => ?_⟩
  · rw [keep_flat _ (fun _ _ => rfl) rfl h.op, h.base]; exact take_snoc i0 h1
  · rw [keep_flat _ (fun _ _ => rfl) rfl h.op, h.ours]; exact take_snoc j0 h2
  · rw [keep_flat _ (fun _ _ => rfl) rfl h.op, h.theirs]; exact take_snoc k0 h3
  · unfold keepW at hc
    cases ho : s.op with
    | true =>
      obtain ⟨fr, x, hx, hk⟩ := h.op ho
      simp only [ho, hx, if_true, List.dropLast_concat, List.mem_append, List.mem_singleton] at hc
      rcases hc with q | rfl
      · exact h.good c (by rw [hx]; simp [q])
      · refine .inl (addL_kept ?_)
        simpa using hk
    | false =>
      simp only [ho, List.mem_append, List.mem_singleton] at hc
      rcases hc with q | rfl
      · exact h.good c q
      · exact .inl (addL_kept ⟨rfl, rfl, rfl, rfl⟩)
  · unfold keepW
    cases ho : s.op with
    | true =>
      obtain ⟨fr, x, hx, hk⟩ := h.op ho
      exact ⟨fr, addL x line, by simp [hx], addL_kept hk⟩
    | false => exact ⟨s.out, addL nilC line, by simp, addL_kept ⟨rfl, rfl, rfl, rfl⟩⟩
theorem put_at (b o t : List Str) (s : Wk) (i j k : Int) : (put b o t s i j k).i = i ∧ (put b o t s i j k).j = j ∧ (put b o t s i j k).k = k := by
  unfold put; split <;> exact ⟨rfl, rfl, rfl⟩
theorem put_len (b o t : List Str) (s : Wk) (i j k : Int) : (put b o t s i j k).out.length ≤ s.out.length + 1 := by
  unfold put; split <;> simp
theorem chunks_parts (b o t : List Str) (hb : b.length ≤ 256) (ho : o.length ≤ 256) (ht : t.length ≤ 256) :
    (chunks b o t).flatMap (·.base) = b ∧ (chunks b o t).flatMap (·.ours) = o ∧ (chunks b o t).flatMap (·.theirs) = t ∧ (∀ c ∈ chunks b o t, Good c) ∧ (chunks b o t).length ≤ 2 * b.length + 1 := by
  obtain ⟨s, h, i0, i1, j0, j1, k0, k1, hl, e⟩ := chunks_ind b o t hb ho ht (WInv b o t) ⟨rfl, rfl, rfl, (fun _ h => by cases h), (fun h => by cases h)⟩ (fun s n u v line hI i0 i1 i2 j0 j1 j2 k0 k1 k2 _ _ l1 l2 l3 => by
    obtain ⟨e1, e2, e3⟩ := put_at b o t s n u v
    exact (hI.put i0 i1 j0 j1 k0 k1).keep (by omega) (by omega) (by omega) (by rw [e1]; exact l1) (by rw [e2]; exact l2) (by rw [e3]; exact l3))
  have hp := h.put i0 i1 j0 j1 k0 k1
  obtain ⟨e1, e2, e3⟩ := put_at b o t s b.length o.length t.length
  have := put_len b o t s b.length o.length t.length
  rw [e]
  refine ⟨?_, ?_, ?_, hp.good, by omega⟩
  · rw [hp.base, e1]; simp
  · rw [hp.ours, e2]; simp
  · rw [hp.theirs, e3]; simp
end Go.P
end

section
namespace Go.P
theorem join_append (a b : List Str) : join (a ++ b) = join a ++ join b := by simp [join_flat]
theorem flatMap_mem_le (f : Chunk → List Str) {cs : List Chunk} {c : Chunk} (h : c ∈ cs) : (f c).length ≤ (cs.flatMap f).length ∧ (join (f c)).length ≤ (join (cs.flatMap f)).length := by
  induction cs with
  | nil => cases h
  | cons d cs ih =>
    rw [List.flatMap_cons, join_append]
    simp only [List.length_append]
    rcases List.mem_cons.1 h with rfl | h
    · omega
    · have := ih h; omega
theorem tvs_len (x y : Str) (M : Nat) : ∀ cs : List Chunk, (∀ c ∈ cs, (tv x y c).length ≤ M) → (tvs x y cs).length ≤ cs.length * M
  | [], _ => by simp [tvs]
  | c :: cs, h => by
    have h1 := h c (by simp)
    have h2 := tvs_len x y M cs fun d hd => h d (by simp [hd])
    have e : tvs x y (c :: cs) = tv x y c ++ tvs x y cs := by simp [tvs]
    rw [e, List.length_append, List.length_cons, Nat.add_mul]
    omega
theorem closed_le (l : List Str) : (closed l).length ≤ (join l).length + 1 := by
  unfold closed; split
  · omega
  · simp
theorem good_out {c : Chunk} (h : Good c) : c.out = c.base ∨ c.out = c.ours ∨ c.out = c.theirs ∨ c.out = [] := by
  rcases h with h | h
  · exact .inl h.2.2.1
  · obtain ⟨g1, g2, g3⟩ := gapv_parts c.base c.ours c.theirs
    rw [h]; unfold gapv
    (repeat' split) <;> simp
theorem chunks_small {b o t : List Str} {L : Nat} (hb : b.length ≤ 256) (ho : o.length ≤ 256) (ht : t.length ≤ 256) (kb : (join b).length ≤ L) (ko : (join o).length ≤ L) (kt : (join t).length ≤ L) :
    ∀ c ∈ chunks b o t, c.ours.length ≤ 256 ∧ (join c.ours).length ≤ L ∧ c.theirs.length ≤ 256 ∧ (join c.theirs).length ≤ L ∧ c.out.length ≤ 256 ∧ (join c.out).length ≤ L := fun c hc => by
  obtain ⟨h1, h2, h3, h4, _⟩ := chunks_parts b o t hb ho ht
  have a1 := flatMap_mem_le (·.base) hc
  have a2 := flatMap_mem_le (·.ours) hc
  have a3 := flatMap_mem_le (·.theirs) hc
  rw [h1] at a1; rw [h2] at a2; rw [h3] at a3
  refine ⟨by omega, by omega, by omega, by omega, ?_, ?_⟩ <;> rcases good_out (h4 c hc) with e | e | e | e <;> rw [e] <;> first | omega | simp [join]
theorem tvs_small {b o t : List Str} {x y : Str} {L : Nat} (hb : b.length ≤ 256) (ho : o.length ≤ 256) (ht : t.length ≤ 256) (kb : (join b).length ≤ L) (ko : (join o).length ≤ L) (kt : (join t).length ≤ L) (hx : x.length ≤ L) (hy : y.length ≤ L) :
    (tvs x y (chunks b o t)).length ≤ 513 * (4 * L + 100) := by
  have hl := (chunks_parts b o t hb ho ht).2.2.2.2
  refine Nat.le_trans (tvs_len x y (4 * L + 100) _ fun c hc => ?_) (Nat.mul_le_mul_right _ (by omega))
  obtain ⟨s1, s2, s3, s4, s5, s6⟩ := chunks_small hb ho ht kb ko kt c hc
  have c1 := closed_le c.ours
  have c2 := closed_le c.theirs
  unfold tv
  split
  · simp only [clashv, List.length_append, List.length_cons, List.length_nil]; omega
  · omega
end Go.P
end

section
namespace Go.S.LP
open Go Go.P
theorem clip_ok (l : List Str) : Sh.slices_Clip_string_string l = some l := by
 unfold Sh.slices_Clip_string_string
 simp [gd, lt]
theorem split_ok (s0 : Str) (h : s0.length ≤ 1048576) : Sh.lines_Split s0 = some (P.spl s0) := by
 apply Ok.eq
 unfold Sh.lines_Split
 refine ok_iter (I := fun x => x.2 ++ P.spl x.1 = P.spl s0 ∧ x.2.length + x.1.length ≤ s0.length) (μ := fun x => x.1.length) ?_ ⟨rfl, by simp⟩
 rintro ⟨s, o⟩ ⟨ho, hl⟩
 simp only [ok_if, ok_up, ok_bd, ok_gd, ok_lt, ok_go, ok_jn, ok_some, clip_ok, sindex_ok] at *
 refine ⟨fun hs => by subst hs; simpa [P.spl] using ho, fun hs => ?_⟩
 obtain ⟨f1, f2⟩ := idx_facts s
 have f3 : 0 < s.length := List.length_pos_iff.2 hs
 have key : ∀ i : Int, (i = Lib.indexByte s 10 ∧ ¬ Lib.indexByte s 10 < 0 ∨ i = s.length - 1 ∧ Lib.indexByte s 10 < 0) → I64 (i + 1) ∧ ((0 : Int) ≤ i + 1 ∧ i + 1 ≤ s.length) ∧ (o.length + [s.take (i + 1).toNat].length ≤ 4294967296) ∧
     ((o ++ [s.take (i + 1).toNat]) ++ P.spl (s.drop (i + 1).toNat) = P.spl s0 ∧ (o ++ [s.take (i + 1).toNat]).length + (s.drop (i + 1).toNat).length ≤ s0.length) ∧ (s.drop (i + 1).toNat).length < s.length := fun i hi => by
   refine ⟨⟨by omega, by omega⟩, ⟨by omega, by omega⟩, by simp; omega, ⟨split_step hs hi ho rfl rfl, by simp; omega⟩, by simp; omega⟩
 refine ⟨fun h1 => ⟨⟨by omega, by omega⟩, ?_⟩, fun h1 => ?_⟩
 ·
  obtain ⟨k1, k2, k3, k4, k5⟩ := key _ (.inr ⟨rfl, h1⟩)
  exact ⟨k1, k2, k3, k1, k2, k4, k5⟩
 obtain ⟨k1, k2, k3, k4, k5⟩ := key _ (.inl ⟨rfl, h1⟩)
 exact ⟨k1, k2, k3, k1, k2, k4, k5⟩
theorem joinS_nil (l : List Str) : joinS l [] = join l := by
 unfold joinS
 rw [join_flat]
 cases l with
 | nil => rfl
 | cons x r => rw [Lib.join_cons]; simp [Lib.joinTail]
theorem ljoin_ok (l : List Str) (h1 : l.length ≤ 1048576) (h2 : (join l).length ≤ 1048576) : Sh.lines_Join l = some (join l) := by
 unfold Sh.lines_Join
 rw [joinS_nil]
 unfold gd lt
 rw [if_pos ⟨by omega, by omega⟩]
theorem whole_ok (s : Str) (h : s.length ≤ 1048576) : Sh.lines_Whole s = some (decide (s = []) || [10].isSuffixOf s) := by
 unfold Sh.lines_Whole Sh.strings_HasSuffix Sh.internal_stringslite_HasSuffix
 by_cases hs : s = []
 ·
  simp [hs]
 have : 0 < s.length := List.length_pos_iff.2 hs
 have e := suffix_yes (s := s) (t := [10]) (by simp; omega)
 simp only [hs, if_false, gd, lt]
 rw [if_pos (by simp; omega), if_pos ⟨by simp; omega, by simp; omega⟩, if_pos (by constructor <;> simp <;> omega)]
 simp [← e]
theorem closed_ok (l : List Str) (h1 : l.length ≤ 1048576) (h2 : (join l).length ≤ 1048575) : Sh.merge_closed l = some (closed l) := by
 unfold Sh.merge_closed
 rw [ljoin_ok l h1 (by omega)]
 simp only [Option.bind_some, whole_ok _ (show (join l).length ≤ 1048576 by omega), gd, lt]
 by_cases h : join l = [] ∨ [10].isSuffixOf (join l) = true
 ·
  have : (decide (join l = []) || [10].isSuffixOf (join l)) = true := by simpa using h
  rw [this]
  unfold closed
  rw [if_pos h]
  simp
 have : (decide (join l = []) || [10].isSuffixOf (join l)) = false := by
   rw [Bool.eq_false_iff]; simpa using h
 rw [this, if_pos (by rfl), if_pos (by simp; omega)]
 simp only [closed, if_neg h]
theorem closed_len (l : List Str) : (closed l).length ≤ (join l).length + 1 := by
 unfold closed
 split
 ·
  omega
 simp
theorem clash_ok (c : Chunk) (a b : Str) (h1 : c.ours.length ≤ 1048576) (h2 : (join c.ours).length ≤ 1048575) (h3 : c.theirs.length ≤ 1048576) (h4 : (join c.theirs).length ≤ 1048575) (ha : a.length ≤ 1048576) (hb : b.length ≤ 1048576) :
 Sh.merge_clash c a b = some (clashv c a b) := by
 have c1 := closed_len c.ours
 have c2 := closed_len c.theirs
 unfold Sh.merge_clash
 simp only [gd, lt, closed_ok _ h1 h2, closed_ok _ h3 h4, Option.bind_some]
 rw [if_pos (by simp; omega), if_pos (by simp; omega), if_pos (by simp; omega), if_pos (by simp; omega), if_pos (by simp; omega), if_pos (by simp; omega), if_pos (by simp; omega), if_pos (by simp; omega)]
 simp [clashv]
theorem text_ok (b o t x y : Str) (hb : b.length ≤ 1048576) (ho : o.length ≤ 1048576) (ht : t.length ≤ 1048576) (h1 : (P.spl b).length ≤ 256) (h2 : (P.spl o).length ≤ 256) (h3 : (P.spl t).length ≤ 256) (hx : x.length ≤ 1048576) (hy : y.length ≤ 1048576)
 (hT : (tvs x y (chunks (P.spl b) (P.spl o) (P.spl t))).length ≤ 4294967296) (hN : (chunks (P.spl b) (P.spl o) (P.spl t)).length ≤ 1048576) (hS : ∀ c ∈ chunks (P.spl b) (P.spl o) (P.spl t), c.ours.length ≤ 1048576 ∧ (join c.ours).length ≤ 1048575 ∧ c.theirs.length ≤ 1048576 ∧ (join c.theirs).length ≤ 1048575 ∧ c.out.length ≤ 1048576 ∧ (join c.out).length ≤ 1048576) :
 Sh.merge_Text b o t x y = some (tvs x y (chunks (P.spl b) (P.spl o) (P.spl t)), nclash (chunks (P.spl b) (P.spl o) (P.spl t)), Err.nil) := by
 apply Ok.eq
 unfold Sh.merge_Text
 have hc : Sh.merge_Chunks (P.spl b) (P.spl o) (P.spl t) = some (chunks (P.spl b) (P.spl o) (P.spl t), Err.nil) := if_pos ⟨h1, h2, h3⟩
 rw [split_ok b hb, split_ok o ho, split_ok t ht]
 simp only [Option.bind_some, hc]
 clear hc
 rw [if_pos (by rfl)]
 generalize chunks (P.spl b) (P.spl o) (P.spl t) = cs at *
 refine ok_iter (I := fun s => 0 ≤ s.2.1 ∧ s.2.1 ≤ cs.length ∧ s.2.2 = tvs x y (cs.take s.2.1.toNat) ∧ s.1 = nclash (cs.take s.2.1.toNat)) (μ := fun s => (cs.length - s.2.1).toNat) ?_ ⟨by simp, by simp, rfl, rfl⟩
 rintro ⟨n, k, acc⟩ ⟨k0, k1, hacc, hn⟩
 dsimp only at k0 k1 hacc hn
 have hnl := nclash_le (cs.take k.toNat)
 have hlt := List.length_take_le k.toNat cs
 simp only [ok_if, ok_up, ok_bd, ok_gd, ok_lt, ok_go, ok_jn, ok_some, ok_at]
 refine ⟨fun hk => ⟨k0, cs[k.toNat]'(by omega), List.getElem?_eq_getElem (by omega), ?_⟩, fun hk => ?_⟩
 ·
  have hz : cs[k.toNat]? = some (cs[k.toNat]'(by omega)) := List.getElem?_eq_getElem (by omega)
  generalize cs[k.toNat]'(by omega) = c at hz ⊢
  obtain ⟨s1, s2, s3, s4, s5, s6⟩ := hS c (List.mem_of_getElem? hz)
  have ht := tvs_take (a := x) (b := y) k0 hz
  have hnc := nclash_take k0 hz
  have hle := tvs_take_le x y cs (k + 1).toNat
  rw [clash_ok c x y s1 s2 s3 s4 hx hy, ljoin_ok c.out s5 (by omega)]
  simp only [ok_some, I64]
  refine ⟨fun hc => ?_, fun hc => ?_⟩
  ·
   have e : tv x y c = clashv c x y := if_pos hc
   rw [e, ← hacc] at ht
   rw [ht, List.length_append] at hle
   rw [hc, if_pos rfl, ← hn] at hnc
   refine ⟨⟨by omega, by omega⟩, by omega, ⟨by omega, by omega⟩, ⟨by omega, by omega, ht.symm, hnc.symm⟩, by omega⟩
  have hcf : c.clash = false := by simpa using hc
  have e : tv x y c = join c.out := by unfold tv; rw [hcf]; rfl
  rw [e, ← hacc] at ht
  rw [ht, List.length_append] at hle
  rw [hcf] at hnc
  refine ⟨by omega, ⟨by omega, by omega⟩, ⟨by omega, by omega, ht.symm, by rw [hnc, ← hn]; simp⟩, by omega⟩
 rw [List.take_of_length_le (by omega)] at hacc hn
 rw [hacc, hn]
theorem spl_len : ∀ s : Str, (P.spl s).length ≤ s.length
  | [] => Nat.le_refl _
  | c :: r => by
    have ih := spl_len r
    simp only [P.spl, List.length_cons]
    split
    · simp; omega
    · cases h : P.spl r with
      | nil => simp
      | cons l t => rw [h] at ih; simp at ih ⊢; omega
theorem text_small (b o t x y : Str) (hb : b.length ≤ 10000) (ho : o.length ≤ 10000) (ht : t.length ≤ 10000) (h1 : (P.spl b).length ≤ 256) (h2 : (P.spl o).length ≤ 256) (h3 : (P.spl t).length ≤ 256) (hx : x.length ≤ 10000) (hy : y.length ≤ 10000) :
 Sh.merge_Text b o t x y = some (tvs x y (chunks (P.spl b) (P.spl o) (P.spl t)), nclash (chunks (P.spl b) (P.spl o) (P.spl t)), Err.nil) := by
 have kb : (join (P.spl b)).length ≤ 10000 := by rw [join_spl]; exact hb
 have ko : (join (P.spl o)).length ≤ 10000 := by rw [join_spl]; exact ho
 have kt : (join (P.spl t)).length ≤ 10000 := by rw [join_spl]; exact ht
 have hl := (chunks_parts _ _ _ h1 h2 h3).2.2.2.2
 have hT := tvs_small h1 h2 h3 kb ko kt hx hy
 refine text_ok b o t x y (by omega) (by omega) (by omega) h1 h2 h3 (by omega) (by omega) (by omega) (by omega) fun c hc => ?_
 obtain ⟨s1, s2, s3, s4, s5, s6⟩ := chunks_small h1 h2 h3 kb ko kt c hc
 omega
theorem requal_ok (a b : List Str) (hl : a.length ≤ 1048576) : Sh.r11_Equal a b = some (decide (a = b)) := by
 apply Ok.eq
 unfold Sh.r11_Equal
 rw [ok_if]
 refine ⟨fun h => ?_, fun h => by rw [ok_some]; simp; intro e; rw [e] at h; exact h rfl⟩
 refine ok_iter (I := fun i => 0 ≤ i ∧ i ≤ a.length ∧ ∀ j < i.toNat, a[j]? = b[j]?) (μ := fun i => (a.length - i).toNat) ?_ ⟨by omega, by omega, fun j hj => by simp at hj⟩
 rintro i ⟨h0, h1, hj⟩
 simp only [ok_if, ok_up, ok_bd, ok_gd, ok_lt, ok_go, ok_some, ok_at]
 refine ⟨fun hi => ⟨h0, a[i.toNat]'(by omega), List.getElem?_eq_getElem (by omega), h0, b[i.toNat]'(by omega), List.getElem?_eq_getElem (by omega), fun h2 => ⟨⟨by omega, by omega⟩, ⟨by omega, by omega, ?_⟩, by omega⟩, fun h2 => ?_⟩, fun hi => ?_⟩
 ·
  exact eq_step h0 (List.getElem?_eq_getElem (by omega)) (List.getElem?_eq_getElem (by omega)) h2 hj
 ·
  have := eq_no (List.getElem?_eq_getElem (by omega)) (List.getElem?_eq_getElem (by omega)) h2
  simpa using this
 have := eq_yes h hi hj
 simpa using this
theorem rjoin_ok (l : List Str) (h1 : l.length ≤ 1048576) (h2 : (join l).length ≤ 1048576) : Sh.r11_Join l = some (join l) := by
 apply Ok.eq
 unfold Sh.r11_Join
 refine ok_iter (I := fun s => 0 ≤ s.2 ∧ s.2 ≤ l.length ∧ s.1 = join (l.take s.2.toNat)) (μ := fun s => (l.length - s.2).toNat) ?_ ⟨by simp, by simp, rfl⟩
 rintro ⟨s, i⟩ ⟨h0, h3, hs⟩
 dsimp only at h0 h3 hs
 simp only [ok_if, ok_up, ok_bd, ok_gd, ok_lt, ok_go, ok_some, ok_at]
 refine ⟨fun hi => ⟨h0, l[i.toNat]'(by omega), List.getElem?_eq_getElem (by omega), ?_⟩, fun hi => ?_⟩
 ·
  have hz : l[i.toNat]? = some (l[i.toNat]'(by omega)) := List.getElem?_eq_getElem (by omega)
  have hj := join_take h0 hz
  have hle := join_take_le l (i + 1).toNat
  rw [hj, List.length_append, ← hs] at hle
  exact ⟨by omega, ⟨by omega, by omega⟩, ⟨by omega, by omega, by rw [hj, hs]⟩, by omega⟩
 rw [hs, List.take_of_length_le (by omega)]
theorem rsplit_ok (s : Str) (h : s.length ≤ 1048576) : Sh.r11_Split s = some (P.spl s) := by
 apply Ok.eq
 unfold Sh.r11_Split
 refine ok_iter (I := fun q => 0 ≤ q.2.1 ∧ q.2.1 ≤ q.2.2 ∧ q.2.2 ≤ s.length ∧ (q.1.length : Int) ≤ q.2.2 ∧ 10 ∉ (s.drop q.2.1.toNat).take (q.2.2.toNat - q.2.1.toNat) ∧ q.1 ++ P.spl (s.drop q.2.1.toNat) = P.spl s) (μ := fun q => (s.length - q.2.2).toNat) ?_ ⟨by simp, by simp, by simp, by simp, by simp, rfl⟩
 rintro ⟨o, f, i⟩ ⟨f0, f1, i1, hol, hn, ho⟩
 dsimp only at f0 f1 i1 hol hn ho
 simp only [ok_if, ok_up, ok_bd, ok_gd, ok_lt, ok_go, ok_some, ok_at, ok_jn]
 refine ⟨fun hi => ⟨by omega, s[i.toNat]'(by omega), List.getElem?_eq_getElem (by omega), fun hu => ?_, fun hu => ?_⟩, fun hi => ⟨fun hf => ?_, fun hf => ?_⟩⟩
 ·
  have hz : s[i.toNat]? = some (s[i.toNat]'(by omega)) := List.getElem?_eq_getElem (by omega)
  exact ⟨⟨by omega, by omega⟩, ⟨by omega, by omega, by omega⟩, by simp; omega, ⟨by omega, by omega⟩, ⟨by omega, by omega⟩, ⟨by omega, by omega, by omega, by simp; omega, by simp, ref_nl f0 f1 hz hu hn ho rfl rfl⟩, by omega⟩
 ·
  have hz : s[i.toNat]? = some (s[i.toNat]'(by omega)) := List.getElem?_eq_getElem (by omega)
  exact ⟨⟨by omega, by omega⟩, ⟨by omega, by omega, by omega, by omega, ref_no f0 f1 hz hu hn, ho⟩, by omega⟩
 ·
  exact ⟨⟨by omega, by omega⟩, by simp; omega, ref_end hi f0 hf hn ho rfl rfl⟩
 exact ref_end0 hf ho
end Go.S.LP
end

section
namespace Go.S
theorem gl_at {α : Type} {l : List α} {i : Int} (h0 : 0 ≤ i) (h : i < l.length) : ∃ z, l[i.toNat]? = some z := ⟨_, List.getElem?_eq_getElem (by omega)⟩
theorem gl_snoc {α : Type} {l : List α} {i : Int} {z : α} (h0 : 0 ≤ i) (h : l[i.toNat]? = some z) : l.take (i + 1).toNat = l.take i.toNat ++ [z] := by
 rw [show (i + 1).toNat = i.toNat + 1 by omega, List.take_add_one, h]; rfl
theorem gl_atv {α : Type} {l : List α} {i : Int} {z : α} (h0 : 0 ≤ i) (h : l[i.toNat]? = some z) : at_ l i = some z := by
 unfold at_; rw [if_pos h0, h]
theorem gl_map {α β : Type} (f : α → β) {l : List α} {i : Nat} {z : α} (h : l[i]? = some z) : (l.map f)[i]? = some (f z) := by rw [List.getElem?_map, h]; rfl
def Nx {T R : Type} (t : T) (y : T ⊕ R) : Prop := y = .inl t
def Up {T R : Type} (Q : R → Prop) (y : T ⊕ R) : Prop := ∃ r, y = .inr r ∧ Q r
theorem nx_go {T R : Type} {t t' : T} (h : t' = t) : Ok (go t' : Option (T ⊕ R)) (Nx t) := ⟨_, rfl, by rw [h]; rfl⟩
theorem nx_gd {T R : Type} {c : Prop} [Decidable c] {t t' : T} (hc : c) (h : t' = t) : Ok (gd c (go t' : Option (T ⊕ R))) (Nx t) := ok_gd.2 ⟨hc, nx_go h⟩
theorem up_up {T R : Type} {o : Option R} {Q : R → Prop} (h : Ok o Q) : Ok (up o : Option (T ⊕ R)) (Up Q) := ok_up.2 (h.mono fun r hr => ⟨r, rfl, hr⟩)
theorem gl_fold {α τ R : Type} {Q : R → Prop} (l : List α) (f : τ → α → τ) (t0 : τ) (B : τ × Int → Option ((τ × Int) ⊕ R))
 (hB : ∀ (i : Int) z, 0 ≤ i → i < l.length → l[i.toNat]? = some z → ∀ s, s = (l.take i.toNat).foldl f t0 → Ok (B (s, i)) (Nx (f s z, i + 1)))
 (hE : ∀ s, s = l.foldl f t0 → Ok (B (s, (l.length : Int))) (Up Q)) : Ok (iter B (t0, 0)) Q := by
 refine ok_iter (I := fun t => 0 ≤ t.2 ∧ t.2 ≤ l.length ∧ t.1 = (l.take t.2.toNat).foldl f t0) (μ := fun t => (l.length - t.2).toNat) ?_ ⟨by dsimp only; omega, by dsimp only; omega, by simp⟩
 rintro ⟨t, i⟩ ⟨i0, i1, i2⟩
 dsimp only at i0 i1 i2 ⊢
 by_cases hi : i < l.length
 ·
  obtain ⟨z, hz⟩ := gl_at i0 hi
  refine (hB i z i0 hi hz t i2).mono ?_
  rintro y hy
  cases hy
  refine ⟨⟨by dsimp only; omega, by dsimp only; omega, ?_⟩, by dsimp only; omega⟩
  show _ = (l.take (i + 1).toNat).foldl f t0
  rw [gl_snoc i0 hz, List.foldl_append, i2]; rfl
 have e : i = l.length := by omega
 subst e
 rw [List.take_of_length_le (by omega)] at i2
 refine (hE t i2).mono ?_
 rintro y ⟨r, rfl, hr⟩
 exact hr
theorem gl_foldL {α τ R : Type} {Q : R → Prop} (l : List α) (f : τ → α → τ) (t0 : τ) (B : Int × τ → Option ((Int × τ) ⊕ R))
 (hB : ∀ (i : Int) z, 0 ≤ i → i < l.length → l[i.toNat]? = some z → ∀ s, s = (l.take i.toNat).foldl f t0 → Ok (B (i, s)) (Nx (i + 1, f s z)))
 (hE : ∀ s, s = l.foldl f t0 → Ok (B ((l.length : Int), s)) (Up Q)) : Ok (iter B (0, t0)) Q := by
 refine ok_iter (I := fun t => 0 ≤ t.1 ∧ t.1 ≤ l.length ∧ t.2 = (l.take t.1.toNat).foldl f t0) (μ := fun t => (l.length - t.1).toNat) ?_ ⟨by dsimp only; omega, by dsimp only; omega, by simp⟩
 rintro ⟨i, t⟩ ⟨i0, i1, i2⟩
 dsimp only at i0 i1 i2 ⊢
 by_cases hi : i < l.length
 ·
  obtain ⟨z, hz⟩ := gl_at i0 hi
  refine (hB i z i0 hi hz t i2).mono ?_
  rintro y hy
  cases hy
  refine ⟨⟨by dsimp only; omega, by dsimp only; omega, ?_⟩, by dsimp only; omega⟩
  show _ = (l.take (i + 1).toNat).foldl f t0
  rw [gl_snoc i0 hz, List.foldl_append, i2]; rfl
 have e : i = l.length := by omega
 subst e
 rw [List.take_of_length_le (by omega)] at i2
 refine (hE t i2).mono ?_
 rintro y ⟨r, rfl, hr⟩
 exact hr
theorem gl_chk {α R : Type} {Q : R → Prop} (l : List α) (P : α → Prop) (B : Int → Option (Int ⊕ R))
 (hB : ∀ (i : Int) z, 0 ≤ i → i < l.length → l[i.toNat]? = some z → (∀ y ∈ l.take i.toNat, P y) → Ok (B i) (fun y => y = .inl (i + 1) ∧ P z ∨ ∃ r, y = .inr r ∧ Q r))
 (hE : (∀ y ∈ l, P y) → Ok (B (l.length : Int)) (Up Q)) : Ok (iter B 0) Q := by
 refine ok_iter (I := fun i => 0 ≤ i ∧ i ≤ l.length ∧ ∀ y ∈ l.take i.toNat, P y) (μ := fun i => (l.length - i).toNat) ?_ ⟨by omega, by omega, by simp⟩
 rintro i ⟨i0, i1, i2⟩
 by_cases hi : i < l.length
 ·
  obtain ⟨z, hz⟩ := gl_at i0 hi
  refine (hB i z i0 hi hz i2).mono ?_
  rintro y (⟨rfl, hp⟩ | ⟨r, rfl, hr⟩)
  ·
   refine ⟨⟨by omega, by omega, fun y hy => ?_⟩, by omega⟩
   rw [gl_snoc i0 hz] at hy
   rcases List.mem_append.1 hy with q | q
   ·
    exact i2 y q
   rw [List.mem_singleton.1 q]; exact hp
  exact hr
 have e : i = l.length := by omega
 subst e
 rw [List.take_of_length_le (by omega)] at i2
 refine (hE i2).mono ?_
 rintro y ⟨r, rfl, hr⟩
 exact hr
end Go.S
end

section
namespace Go.S
open Go Go.P
def toRE (e : P.Edit) : Rectoref11Edit := ⟨e.op, e.line⟩
theorem crows_at (a b : List (List UInt8)) {i : Int} (i0 : 0 ≤ i) (h : i ≤ a.length) : at_ ((List.range (a.length + 1)).map (P.crow a b)) i = some (P.crow a b i.toNat) := by
 refine gl_atv i0 ?_
 rw [List.getElem?_map, List.getElem?_range (by omega)]; rfl
theorem crowv_at (a b : List (List UInt8)) (i : Nat) {j : Int} (j0 : 0 ≤ j) (h : j ≤ b.length) : at_ (P.crow a b i) j = some (lcs (a.drop i) (b.drop j.toNat) : Int) := gl_atv j0 (crow_at a b i (by omega))
theorem at_lt {α : Type} {l : List α} {i : Int} {z : α} (h : l[i.toNat]? = some z) (i0 : 0 ≤ i) : i < l.length := by
 have := (List.getElem?_eq_some_iff.1 h).1
 omega
theorem linesR {a b : List (List UInt8)} (ha : a.length ≤ 256) (hb : b.length ≤ 256) : Sh.r11_Lines a b = some ((edits a b).map toRE, ⟨[], 0⟩) := by
 apply Ok.eq
 unfold Sh.r11_Lines
 have h1 : Sh.r11_long a b = some ⟨[], 0⟩ := by
   unfold Sh.r11_long
   rw [if_neg (by omega), if_neg (by omega)]
 have h2 : Sh.r11_common a b = some ((List.range (a.length + 1)).map (P.crow a b)) := if_pos ⟨ha, hb⟩
 rw [h1, Option.bind_some, if_pos (by rfl), h2, Option.bind_some]
 refine ok_jnP (fun o => o = (edits a b).map toRE) ?_ ?_
 ·
  rintro o rfl
  exact ok_some.2 rfl
 intro K hK
 refine ok_iter (I := fun s => 0 ≤ s.2.1 ∧ s.2.1 ≤ a.length ∧ 0 ≤ s.2.2 ∧ s.2.2 ≤ b.length ∧ (s.1.length : Int) ≤ s.2.1 + s.2.2 ∧ s.1 ++ (edits (a.drop s.2.1.toNat) (b.drop s.2.2.toNat)).map toRE = (edits a b).map toRE) (μ := fun s => (a.length - s.2.1 + (b.length - s.2.2)).toNat) ?_ ⟨by dsimp only; omega, by dsimp only; omega, by dsimp only; omega, by dsimp only; omega, by simp, by simp⟩
 rintro ⟨o, i, j⟩ ⟨i0, i1, j0, j1, hl, he⟩
 dsimp only at i0 i1 j0 j1 hl he ⊢
 refine ok_jnP (fun _ => i < a.length ∨ j < b.length) ?_ ?_
 ·
  intro _ hij
  refine ok_jnP (fun v => v = decide (stepv (a.drop i.toNat) (b.drop j.toNat) = 1)) ?_ ?_
  ·
   rintro v rfl
   rw [ok_if]
   refine ⟨fun q => ?_, fun q => ?_⟩
   ·
    have q := of_decide_eq_true q
    obtain ⟨ia, jb⟩ := stepv_is1 q
    obtain ⟨z, hz⟩ := gl_at i0 ia
    rw [gl_atv i0 hz, Option.bind_some]
    simp only [ok_lt, ok_gd, ok_go]
    refine ⟨by simp only [List.length_cons, List.length_nil]; omega, ⟨by omega, by omega⟩, ⟨by omega, by omega⟩, ⟨by omega, by omega, by omega, by omega, by simp only [List.length_append, List.length_cons, List.length_nil]; omega, ?_⟩, by omega⟩
    rw [edits_1 i0 j0 q hz] at he
    rw [← he]; simp [toRE]
   have q := of_decide_eq_false (by simpa using q : decide (stepv (a.drop i.toNat) (b.drop j.toNat) = 1) = false)
   refine ok_jnP (fun v => v = decide (stepv (a.drop i.toNat) (b.drop j.toNat) = 2)) ?_ ?_
   ·
    rintro v rfl
    rw [ok_if]
    refine ⟨fun q2 => ?_, fun q2 => ?_⟩
    ·
     have q2 := of_decide_eq_true q2
     have ia := stepv_is2 q2
     obtain ⟨z, hz⟩ := gl_at i0 ia
     rw [gl_atv i0 hz, Option.bind_some]
     simp only [ok_lt, ok_gd, ok_go]
     refine ⟨by simp only [List.length_cons, List.length_nil]; omega, ⟨by omega, by omega⟩, ⟨by omega, by omega, by omega, by omega, by simp only [List.length_append, List.length_cons, List.length_nil]; omega, ?_⟩, by omega⟩
     rw [edits_2 i0 q2 hz] at he
     rw [← he]; simp [toRE]
    have q2 := of_decide_eq_false (by simpa using q2 : decide (stepv (a.drop i.toNat) (b.drop j.toNat) = 2) = false)
    have q3 : stepv (a.drop i.toNat) (b.drop j.toNat) = 3 := by
      rcases stepv_cases (a.drop i.toNat) (b.drop j.toNat) with h | h | h
      · exact absurd h q
      · exact absurd h q2
      · exact h
    have jb := stepv_is3 i0 j0 q3 hij
    obtain ⟨z, hz⟩ := gl_at j0 jb
    rw [gl_atv j0 hz, Option.bind_some]
    simp only [ok_lt, ok_gd, ok_go]
    refine ⟨by simp only [List.length_cons, List.length_nil]; omega, ⟨by omega, by omega⟩, ⟨by omega, by omega, by omega, by omega, by simp only [List.length_append, List.length_cons, List.length_nil]; omega, ?_⟩, by omega⟩
    rw [edits_3 j0 q3 hz] at he
    rw [← he]; simp [toRE]
   intro K2 hK2
   rw [ok_if]
   refine ⟨fun ia => ?_, fun ia => ?_⟩
   ·
    obtain ⟨x, hx⟩ := gl_at i0 ia
    rw [ok_if]
    refine ⟨fun jb => hK2 _ ?_, fun jb => ?_⟩
    ·
     have := stepv_b (a := a) (b := b) i0 ia j0 (by omega)
     rw [← this]; rfl
    have jb' : j < b.length := by omega
    obtain ⟨y, hy⟩ := gl_at j0 jb'
    refine ok_gd.2 ⟨⟨by omega, by omega⟩, ?_⟩
    rw [crows_at a b (by omega) (by omega), Option.bind_some, crowv_at a b _ j0 (by omega), Option.bind_some, crows_at a b i0 (by omega), Option.bind_some]
    refine ok_gd.2 ⟨⟨by omega, by omega⟩, ?_⟩
    rw [crowv_at a b _ (by omega) (by omega), Option.bind_some]
    refine hK2 _ ?_
    have hv := stepv_xy hx hy
    by_cases exy : x = y
    ·
     rw [if_pos exy] at hv; exact absurd hv q
    rw [if_neg exy] at hv
    rw [hv]
    have e1 : (i + 1).toNat = i.toNat + 1 := by omega
    have e2 : (j + 1).toNat = j.toNat + 1 := by omega
    rw [e1, e2]
    by_cases hle : lcs (a.drop i.toNat) (b.drop (j.toNat + 1)) ≤ lcs (a.drop (i.toNat + 1)) (b.drop j.toNat)
    ·
     rw [if_pos hle]; simp; omega
    rw [if_neg hle]; simp; omega
   refine hK2 _ ?_
   have := stepv_a (a := a) (b := b) (j := j) i0 ia
   rw [← this]; rfl
  intro K2 hK2
  rw [ok_if]
  refine ⟨fun ia => ?_, fun ia => ?_⟩
  ·
   obtain ⟨x, hx⟩ := gl_at i0 ia
   rw [ok_if]
   refine ⟨fun jb => ?_, fun jb => hK2 _ ?_⟩
   ·
    obtain ⟨y, hy⟩ := gl_at j0 jb
    rw [gl_atv i0 hx, Option.bind_some, gl_atv j0 hy, Option.bind_some]
    refine hK2 _ ?_
    have hv := stepv_xy hx hy
    by_cases exy : x = y
    ·
     rw [if_pos exy] at hv; rw [hv]; simp [exy]
    rw [if_neg exy] at hv
    rw [hv]
    split <;> simp [exy]
   have := stepv_b (a := a) (b := b) i0 ia j0 jb
   rw [← this]; rfl
  refine hK2 _ ?_
  have := stepv_a (a := a) (b := b) (j := j) i0 ia
  rw [← this]; rfl
 intro K2 hK2
 rw [ok_if]
 refine ⟨fun ia => hK2 _ (.inl ia), fun ia => ?_⟩
 rw [ok_if]
 refine ⟨fun jb => hK2 _ (.inr jb), fun jb => ok_up.2 (hK _ ?_)⟩
 rw [← he, List.drop_of_length_le (by omega), List.drop_of_length_le (by omega)]
 simp [edits]
theorem keptR (l : List P.Edit) (n : Nat) (hl : l.length ≤ 100000) (hn : ((pls l 0).length : Int) = n) (ho : ∀ e ∈ l, e.op = 1 ∨ e.op = 2 ∨ e.op = 3) : Sh.r11_kept (l.map toRE) (n : Int) = some (pls l 0) := by
 apply Ok.eq
 have hlen : (l.map toRE).length = l.length := List.length_map ..
 have hple : ∀ (m : List P.Edit) (j : Int), (pls m j).length ≤ m.length := fun m => by
   induction m with
   | nil => intro j; simp [pls]
   | cons e r ih =>
     intro j
     have h1 := ih j
     have h2 := ih (j + 1)
     unfold pls
     split
     · simp only [List.length_cons]; omega
     · split <;> simp only [List.length_cons] <;> omega
 have hnl := hple l 0
 unfold Sh.r11_kept
 simp only [hlen]
 refine ok_gd.2 ⟨⟨by omega, by omega⟩, ok_lt.2 ?_⟩
 refine ok_iter (I := fun s => 0 ≤ s.2.2.2 ∧ s.2.2.2 ≤ l.length ∧ 0 ≤ s.2.1 ∧ s.2.1 ≤ s.2.2.2 ∧ 0 ≤ s.2.2.1 ∧ s.2.2.1 ≤ s.2.2.2 ∧ s.1.length = n ∧ s.1.take s.2.1.toNat ++ pls (l.drop s.2.2.2.toNat) s.2.2.1 = pls l 0 ∧ (s.2.1 : Int) + (pls (l.drop s.2.2.2.toNat) s.2.2.1).length = n) (μ := fun s => (l.length - s.2.2.2).toNat) ?_ ⟨by dsimp only; omega, by dsimp only; omega, by dsimp only; omega, by dsimp only; omega, by dsimp only; omega, by dsimp only; omega, by simp, by simp, by simp [hn]⟩
 rintro ⟨o, i, j, k⟩ ⟨k0, k1, i0, i1, j0, j1, hol, he, hc⟩
 dsimp only at k0 k1 i0 i1 j0 j1 hol he hc ⊢
 by_cases hk : k < l.length
 ·
  obtain ⟨e, hz⟩ := gl_at k0 hk
  have hd : l.drop k.toNat = e :: l.drop (k + 1).toNat := by
    rw [show (k + 1).toNat = k.toNat + 1 by omega, ← (List.getElem?_eq_some_iff.1 hz).2, ← List.drop_eq_getElem_cons]
  rw [hd] at he hc
  rw [if_pos hk]
  refine ok_jnP (fun s => 0 ≤ s.2.1 ∧ s.2.1 ≤ k + 1 ∧ 0 ≤ s.2.2 ∧ s.2.2 ≤ k + 1 ∧ s.1.length = n ∧ s.1.take s.2.1.toNat ++ pls (l.drop (k + 1).toNat) s.2.2 = pls l 0 ∧ (s.2.1 : Int) + (pls (l.drop (k + 1).toNat) s.2.2).length = n) ?_ ?_
  ·
   rintro ⟨o', i', j'⟩ ⟨p1, p2, p3, p4, p5, p6, p7⟩
   dsimp only at p1 p2 p3 p4 p5 p6 p7 ⊢
   exact ok_gd.2 ⟨⟨by omega, by omega⟩, ok_go.2 ⟨⟨by dsimp only; omega, by dsimp only; omega, p1, p2, p3, p4, p5, p6, p7⟩, by dsimp only; omega⟩⟩
  intro K hK
  rw [gl_atv k0 (gl_map toRE hz), Option.bind_some]
  have hop := ho e (List.mem_of_getElem? hz)
  have hset : ∀ v : Int, i.toNat < o.length → (o.set i.toNat v).take (i + 1).toNat = o.take i.toNat ++ [v] := fun v h => by
    rw [show (i + 1).toNat = i.toNat + 1 by omega, List.take_set, List.take_add_one]
    rw [List.set_append_right _ _ (by rw [List.length_take]; omega)]
    rw [List.length_take, Nat.min_eq_left (by omega), Nat.sub_self, List.getElem?_eq_getElem h]
    rfl
  rcases hop with q | q | q
  ·
   have hp : pls (e :: l.drop (k + 1).toNat) j = j :: pls (l.drop (k + 1).toNat) (j + 1) := by
     rw [pls, if_neg (by omega), if_neg (by omega)]
   rw [hp] at he hc
   simp only [List.length_cons] at hc
   obtain ⟨w, hw⟩ := gl_at (l := o) i0 (by omega)
   rw [if_pos (show (toRE e).op = 1 from q), gl_atv i0 hw, Option.bind_some]
   simp only [ok_lt, ok_gd]
   refine ⟨⟨by omega, by omega⟩, ⟨by omega, by omega⟩, hK _ ⟨by dsimp only; omega, by dsimp only; omega, by dsimp only; omega, by dsimp only; omega, by simp [hol], ?_, by dsimp only; omega⟩⟩
   show (o.set i.toNat j).take (i + 1).toNat ++ _ = _
   rw [hset j (by omega), ← he]; simp
  ·
   have hp : pls (e :: l.drop (k + 1).toNat) j = (-1) :: pls (l.drop (k + 1).toNat) j := by
     rw [pls, if_neg (by omega), if_pos q]
   rw [hp] at he hc
   simp only [List.length_cons] at hc
   obtain ⟨w, hw⟩ := gl_at (l := o) i0 (by omega)
   rw [if_neg (show ¬ (toRE e).op = 1 from by show ¬ e.op = 1; omega), if_pos (show (toRE e).op = 2 from q), gl_atv i0 hw, Option.bind_some]
   simp only [ok_lt, ok_gd]
   refine ⟨⟨by omega, by omega⟩, hK _ ⟨by dsimp only; omega, by dsimp only; omega, by dsimp only; omega, by dsimp only; omega, by simp [hol], ?_, by dsimp only; omega⟩⟩
   show (o.set i.toNat (-1)).take (i + 1).toNat ++ _ = _
   rw [hset (-1) (by omega), ← he]; simp
  have hp : pls (e :: l.drop (k + 1).toNat) j = pls (l.drop (k + 1).toNat) (j + 1) := by
    rw [pls, if_pos q]
  rw [hp] at he hc
  rw [if_neg (show ¬ (toRE e).op = 1 from by show ¬ e.op = 1; omega), if_neg (show ¬ (toRE e).op = 2 from by show ¬ e.op = 2; omega), if_pos (show (toRE e).op = 3 from q)]
  exact ok_gd.2 ⟨⟨by omega, by omega⟩, hK _ ⟨i0, by dsimp only; omega, by dsimp only; omega, by dsimp only; omega, hol, he, hc⟩⟩
 rw [if_neg hk]
 rw [List.drop_of_length_le (by omega)] at he hc
 simp [pls] at he hc
 refine ok_up.2 (ok_some.2 ?_)
 rw [← he, List.take_of_length_le (by omega)]
end Go.S
end

section
namespace Go.S
open Go Go.P
def toRC (c : P.Chunk) : Rectoref11ChunkP := ⟨c.base, c.ours, c.theirs, c.clash, c.out⟩
theorem betweenR (b o t : List (List UInt8)) (ho : o.length ≤ 1048576) (ht : t.length ≤ 1048576) : Sh.r11_between b o t = some (toRC (gapv b o t)) := by
 unfold Sh.r11_between
 rw [LP.requal_ok o b ho, Option.bind_some]
 unfold gapv
 by_cases h1 : o = b
 ·
  rw [if_pos h1, if_pos (by simpa using h1)]; rfl
 rw [if_neg h1, if_neg (by simpa using h1), LP.requal_ok t b ht, Option.bind_some]
 by_cases h2 : t = b
 ·
  rw [if_pos h2, if_pos (by simpa using h2)]; rfl
 rw [if_neg h2, if_neg (by simpa using h2), LP.requal_ok o t ho, Option.bind_some]
 by_cases h3 : o = t
 ·
  rw [if_pos h3, if_pos (by simpa using h3)]; rfl
 rw [if_neg h3, if_neg (by simpa using h3)]; rfl
def EndW (b o t : List (List UInt8)) (w : Wk) : Prop := w.op = true → ¬ ((places b o)[w.i.toNat]? = some w.j ∧ (places b t)[w.i.toNat]? = some w.k)
def runC (b : List (List UInt8)) (p : List P.Chunk) (n m u v : Int) : Wk := ⟨m, u + (m - n), v + (m - n), p ++ [⟨sl b n m, sl b n m, sl b n m, false, sl b n m⟩], true⟩
theorem sl_snoc {b : List (List UInt8)} {n m : Int} {z : List UInt8} (n0 : 0 ≤ n) (hm : n ≤ m) (h : b[m.toNat]? = some z) : sl b n (m + 1) = sl b n m ++ [z] := by
 unfold sl
 rw [show (m + 1).toNat - n.toNat = (m.toNat - n.toNat) + 1 by omega, List.take_add_one, List.getElem?_drop, show n.toNat + (m.toNat - n.toNat) = m.toNat by omega, h]
 rfl
theorem run_first {b o t : List (List UInt8)} {n u v : Int} {s : Wk} {z : List UInt8} (n0 : 0 ≤ n) (h : b[n.toNat]? = some z) (hi : s.i ≤ n) (hj : s.j ≤ u) (hk : s.k ≤ v) (hu : (places b o)[n.toNat]? = some u) (hv : (places b t)[n.toNat]? = some v) (he : EndW b o t s) :
 keepW (put b o t s n u v) z = runC b (put b o t s n u v).out n (n + 1) u v := by
 have hs : (put b o t s n u v).op = false := by
   unfold put
   split
   · rfl
   · rename_i hq
     have e1 : s.i = n := by omega
     have e2 : s.j = u := by omega
     have e3 : s.k = v := by omega
     cases ho : s.op with
     | false => rfl
     | true => exact absurd ⟨by rw [e1, e2]; exact hu, by rw [e1, e3]; exact hv⟩ (he ho)
 have hx : sl b n (n + 1) = [z] := by
   rw [sl_snoc n0 (by omega) h]; simp [sl]
 obtain ⟨out, op, hp⟩ := put_form b o t s n u v
 rw [hp] at hs ⊢
 unfold keepW runC
 simp only at hs
 simp only [hs, hx, nilC, addL]
 simp
 omega
theorem run_next {b o t : List (List UInt8)} {p : List P.Chunk} {n m u v : Int} {z : List UInt8} (n0 : 0 ≤ n) (hm : n < m) (h : b[m.toNat]? = some z) :
 keepW (put b o t (runC b p n m u v) m (u + (m - n)) (v + (m - n))) z = runC b p n (m + 1) u v := by
 have hp : put b o t (runC b p n m u v) m (u + (m - n)) (v + (m - n)) = runC b p n m u v := by
   unfold put
   rw [if_neg (by simp only [runC]; omega)]
   rfl
 rw [hp]
 unfold keepW runC
 rw [sl_snoc n0 (by omega) h]
 simp only [if_true, List.dropLast_concat, List.getLastD_concat, addL, Wk.mk.injEq, and_true]
 exact ⟨trivial, by omega, by omega⟩
theorem pl_len (b o : List (List UInt8)) : ((pls (edits b o) 0).length : Int) = (b.length : Nat) := by
 have := places_len b o
 rw [places_pls] at this
 omega
theorem chunksR {b o t : List (List UInt8)} (hb : b.length ≤ 256) (ho : o.length ≤ 256) (ht : t.length ≤ 256) : Sh.r11_Chunks b o t = some ((P.chunks b o t).map toRC, ⟨[], 0⟩) := by
 apply Ok.eq
 unfold Sh.r11_Chunks
 have e1 : (edits b o).length ≤ 100000 := by have := edits_len b o; omega
 have e2 : (edits b t).length ≤ 100000 := by have := edits_len b t; omega
 rw [linesR hb ho, Option.bind_some, if_pos (by rfl), linesR hb ht, Option.bind_some, if_pos (by rfl)]
 dsimp only
 rw [keptR _ _ e1 (pl_len b o) (edits_ops b o), Option.bind_some, keptR _ _ e2 (pl_len b t) (edits_ops b t), Option.bind_some, ← places_pls, ← places_pls]
 have la := places_len b o
 have lb := places_len b t
 refine ok_iter (I := fun s => ∃ w : Wk, CInv b o t s.2.1 w ∧ w.i = s.2.1 ∧ w.j = s.2.2.1 ∧ w.k = s.2.2.2 ∧ s.1 = w.out.map toRC ∧ EndW b o t w) (μ := fun s => (b.length - s.2.1).toNat) ?_ ⟨⟨0, 0, 0, [], false⟩, cinv_start b o t, rfl, rfl, rfl, rfl, fun h => by cases h⟩
 rintro ⟨out, i, j, k⟩ ⟨w, hc, wi, wj, wk, hout, hend⟩
 dsimp only at hc wi wj wk hout ⊢
 refine ok_jnP (fun n => CInv b o t n w ∧ i ≤ n ∧ (n < b.length → ∃ u v, (places b o)[n.toNat]? = some u ∧ (places b t)[n.toNat]? = some v ∧ 0 ≤ u ∧ 0 ≤ v)) ?_ ?_
 ·
  rintro n ⟨hcn, hin, huv⟩
  have n0 := hcn.n0
  have n1 := hcn.n1
  have j0 := hcn.j0
  have k0 := hcn.k0
  have j1 := hcn.j1
  have k1 := hcn.k1
  refine ok_jnP (fun q => (n = b.length ∧ q = ((o.length : Int), (t.length : Int))) ∨ (n < b.length ∧ (places b o)[n.toNat]? = some q.1 ∧ (places b t)[n.toNat]? = some q.2 ∧ 0 ≤ q.1 ∧ 0 ≤ q.2)) ?_ ?_
  ·
   rintro ⟨u, v⟩ hq
   dsimp only at hq ⊢
   have hju : w.j ≤ u ∧ u ≤ o.length ∧ w.k ≤ v ∧ v ≤ t.length := by
     rcases hq with ⟨_, hq⟩ | ⟨hn, h1, h2, h3, h4⟩
     · cases hq; omega
     · have := hcn.ju n.toNat u (by omega) h1 h3
       have := hcn.kv n.toNat v (by omega) h2 h4
       have := places_range b o u (List.mem_of_getElem? h1) h3
       have := places_range b t v (List.mem_of_getElem? h2) h4
       omega
   obtain ⟨u0, u1, v0, v1⟩ := hju
   refine ok_jnP (fun out' => out' = (put b o t w n u v).out.map toRC) ?_ ?_
   ·
    rintro out' rfl
    rw [ok_if]
    refine ⟨fun hn => ?_, fun hn => ?_⟩
    ·
     refine ok_up.2 (ok_some.2 ?_)
     rcases hq with ⟨_, hq⟩ | ⟨hq, _⟩
     ·
      cases hq
      unfold P.chunks
      rw [hcn.eq, hn]
      rfl
     omega
    have hnl : n < b.length := by omega
    obtain ⟨_, hu, hv, pu, pv⟩ := hq.resolve_left (fun h => by omega)
    obtain ⟨z, hz⟩ := gl_at n0 hnl
    have hf := run_first n0 hz (by omega) u0 v0 hu hv hend
    refine ok_jnP (fun m => n < m ∧ CInv b o t m (runC b (put b o t w n u v).out n m u v) ∧ EndW b o t (runC b (put b o t w n u v).out n m u v)) ?_ ?_
    ·
     rintro m ⟨hm, hcm, hem⟩
     have m1 := hcm.n1
     have lm := hcm.len
     simp only [runC, List.length_append, List.length_cons, List.length_nil] at lm
     have jm := hcm.j1
     have km := hcm.k1
     simp only [runC] at jm km
     refine ok_gd.2 ⟨⟨by omega, by omega, by omega⟩, ok_lt.2 (ok_lt.2 (ok_gd.2 ⟨by simp only [List.length_map, List.length_cons, List.length_nil]; omega, ok_lt.2 ?_⟩))⟩
     refine ok_gd.2 ⟨⟨by omega, by omega⟩, ok_gd.2 ⟨⟨by omega, by omega⟩, ok_gd.2 ⟨⟨by omega, by omega⟩, ok_gd.2 ⟨⟨by omega, by omega⟩, ok_go.2 ⟨⟨_, hcm, rfl, ?_, ?_, ?_, hem⟩, by dsimp only; omega⟩⟩⟩⟩⟩
     ·
      simp only [runC]; omega
     ·
      simp only [runC]; omega
     simp [runC, toRC, sl]
    intro K hK
    refine ok_iter (I := fun m => (m = n) ∨ (n < m ∧ CInv b o t m (runC b (put b o t w n u v).out n m u v))) (μ := fun m => (b.length - m).toNat) ?_ (.inl rfl)
    intro m hm
    have m0 : n ≤ m := by omega
    by_cases hml : m < b.length
    ·
     obtain ⟨x, hx⟩ := gl_at (l := places b o) (i := m) (by omega) (by omega)
     obtain ⟨y, hy⟩ := gl_at (l := places b t) (i := m) (by omega) (by omega)
     obtain ⟨l, hl⟩ := gl_at (l := b) (i := m) (by omega) hml
     have hx1 := places_range b o x (List.mem_of_getElem? hx)
     have hy1 := places_range b t y (List.mem_of_getElem? hy)
     rw [if_pos hml, gl_atv (by omega) hx, Option.bind_some, gl_atv (by omega) hy, Option.bind_some]
     by_cases hxy : x = u + (m - n) ∧ y = v + (m - n)
     ·
      obtain ⟨ex, ey⟩ := hxy
      rw [if_pos (by omega), if_pos (by omega), Option.bind_some]
      refine ok_gd.2 ⟨⟨by omega, by omega⟩, ok_gd.2 ⟨⟨by omega, by omega⟩, ?_⟩⟩
      rw [if_pos (by omega), Option.bind_some]
      refine ok_gd.2 ⟨⟨by omega, by omega⟩, ok_gd.2 ⟨⟨by omega, by omega⟩, ?_⟩⟩
      rw [if_pos (by omega)]
      refine ok_gd.2 ⟨⟨by omega, by omega⟩, ok_go.2 ⟨.inr ⟨by omega, ?_⟩, by omega⟩⟩
      rcases hm with rfl | ⟨hm, hcm⟩
      ·
       rw [← run_first n0 hl (by omega) u0 v0 hu hv hend]
       exact cinv_keep hcn hb ho ht hu hv hl pu pv
      have := cinv_keep hcm hb ho ht hx hy hl (by omega) (by omega)
      rw [ex, ey, run_next n0 hm hl] at this
      exact this
     have hnm : n < m ∧ CInv b o t m (runC b (put b o t w n u v).out n m u v) := by
       rcases hm with rfl | hm
       · rw [hu] at hx; rw [hv] at hy; cases hx; cases hy; omega
       · exact hm
     have hKm := hK m ⟨hnm.1, hnm.2, fun _ hh => hxy ⟨by
       have h1 := hh.1
       simp only [runC] at h1
       rw [hx] at h1; exact Option.some.inj h1, by
       have h1 := hh.2
       simp only [runC] at h1
       rw [hy] at h1; exact Option.some.inj h1⟩⟩
     rw [ok_if]
     refine ⟨fun x0 => ?_, fun _ => ok_up.2 hKm⟩
     rw [ok_if]
     refine ⟨fun y0 => ?_, fun _ => ok_up.2 hKm⟩
     rw [Option.bind_some]
     refine ok_gd.2 ⟨⟨by omega, by omega⟩, ok_gd.2 ⟨⟨by omega, by omega⟩, ?_⟩⟩
     rw [ok_if]
     refine ⟨fun q1 => ?_, fun _ => ok_up.2 hKm⟩
     rw [Option.bind_some]
     refine ok_gd.2 ⟨⟨by omega, by omega⟩, ok_gd.2 ⟨⟨by omega, by omega⟩, ?_⟩⟩
     rw [ok_if]
     refine ⟨fun q2 => absurd ⟨by omega, by omega⟩ hxy, fun _ => ok_up.2 hKm⟩
    rw [if_neg hml]
    have hnm : n < m ∧ CInv b o t m (runC b (put b o t w n u v).out n m u v) := by
      rcases hm with rfl | hm
      · omega
      · exact hm
    refine ok_up.2 (hK m ⟨hnm.1, hnm.2, fun _ hh => ?_⟩)
    have h1 := at_lt (i := m) hh.1 (by omega)
    omega
   intro K hK
   refine ok_jnP (fun x => x = decide (w.i < n ∨ w.j < u ∨ w.k < v)) ?_ ?_
   ·
    rintro x rfl
    rw [ok_if]
    have lw := hcn.len
    have hi1 := hcn.i0
    refine ⟨fun h => ?_, fun h => hK _ ?_⟩
    ·
     have h := of_decide_eq_true h
     refine ok_gd.2 ⟨⟨by omega, by omega, by omega⟩, ok_lt.2 (ok_gd.2 ⟨⟨by omega, by omega, by omega⟩, ok_lt.2 (ok_gd.2 ⟨⟨by omega, by omega, by omega⟩, ok_lt.2 ?_⟩)⟩)⟩
     rw [betweenR _ _ _ (by simp only [List.length_take, List.length_drop]; omega) (by simp only [List.length_take, List.length_drop]; omega), Option.bind_some]
     refine ok_lt.2 (ok_gd.2 ⟨by rw [hout]; simp only [List.length_map, List.length_cons, List.length_nil]; omega, ok_lt.2 (hK _ ?_)⟩)
     unfold put
     rw [if_pos h, hout, wi, wj, wk]
     simp [toRC, sl]
    have h := of_decide_eq_false (by simpa using h : decide (w.i < n ∨ w.j < u ∨ w.k < v) = false)
    unfold put
    rw [if_neg h, hout]
   intro K2 hK2
   rw [ok_if]
   refine ⟨fun h => hK2 _ (by rw [wi]; simp [h]), fun h => ?_⟩
   rw [ok_if]
   refine ⟨fun h2 => hK2 _ (by rw [wj]; simp [h2]), fun h2 => hK2 _ (by rw [wi, wj, wk]; simp [h, h2])⟩
  intro K hK
  rw [ok_if]
  refine ⟨fun hn => ?_, fun hn => hK _ (.inl ⟨by omega, rfl⟩)⟩
  obtain ⟨u, v, hu, hv, pu, pv⟩ := huv hn
  rw [gl_atv n0 hu, Option.bind_some, gl_atv n0 hv, Option.bind_some]
  exact hK _ (.inr ⟨hn, hu, hv, pu, pv⟩)
 intro K hK
 refine ok_iter (I := fun n => CInv b o t n w ∧ i ≤ n) (μ := fun n => (b.length - n).toNat) ?_ ⟨hc, by omega⟩
 rintro n ⟨hcn, hin⟩
 have n0 := hcn.n0
 have n1 := hcn.n1
 by_cases hn : n < b.length
 ·
  obtain ⟨u, hu⟩ := gl_at (l := places b o) (i := n) n0 (by omega)
  obtain ⟨v, hv⟩ := gl_at (l := places b t) (i := n) n0 (by omega)
  refine ok_jnP (fun _ => ¬ (0 ≤ u ∧ 0 ≤ v)) ?_ ?_
  ·
   intro _ hno
   exact ok_gd.2 ⟨⟨by omega, by omega⟩, ok_go.2 ⟨⟨cinv_pass hcn hu hv hn hno, by omega⟩, by omega⟩⟩
  intro K2 hK2
  rw [if_pos hn, gl_atv n0 hu, Option.bind_some, ok_if]
  refine ⟨fun h => hK2 _ (by omega), fun h => ?_⟩
  rw [gl_atv n0 hv, Option.bind_some, ok_if]
  exact ⟨fun h2 => hK2 _ (by omega), fun h2 => ok_up.2 (hK n ⟨hcn, hin, fun _ => ⟨u, v, hu, hv, by omega, by omega⟩⟩)⟩
 refine ok_jnP (fun _ => False) (fun _ h => h.elim) ?_
 intro K2 hK2
 rw [if_neg hn]
 exact ok_up.2 (hK n ⟨hcn, hin, fun h => absurd h hn⟩)
end Go.S
end

section
namespace Go.S
open Go Go.P
def tooLong (b : List (List UInt8)) : Int := if 256 < (b.length : Int) then 0 else 1
def linesS : List UInt8 := [108, 105, 110, 101, 115]
def Short (b o t : List (List UInt8)) : Prop := b.length ≤ 256 ∧ o.length ≤ 256 ∧ t.length ≤ 256
theorem linesR_long {a b : List (List UInt8)} (h : ¬ (a.length ≤ 256 ∧ b.length ≤ 256)) : Sh.r11_Lines a b = some ([], ⟨[⟨linesS, tooLong a⟩], 4⟩) := by
 unfold Sh.r11_Lines
 have h1 : Sh.r11_long a b = some ⟨[⟨linesS, tooLong a⟩], 4⟩ := by
   unfold Sh.r11_long tooLong
   by_cases ha : 256 < (a.length : Int)
   · rw [if_pos ha, if_pos ha]; rfl
   · rw [if_neg ha, if_neg ha, if_pos (by omega)]; rfl
 rw [h1, Option.bind_some, if_neg (by show ¬ (4 : Int) = 0; decide)]
theorem chunksR_long {b o t : List (List UInt8)} (h : ¬ Short b o t) : Sh.r11_Chunks b o t = some ([], ⟨[⟨linesS, tooLong b⟩], 4⟩) := by
 unfold Short at h
 unfold Sh.r11_Chunks
 by_cases h1 : b.length ≤ 256 ∧ o.length ≤ 256
 ·
  rw [linesR h1.1 h1.2, Option.bind_some, if_pos (by rfl), linesR_long (a := b) (b := t) (by omega), Option.bind_some, if_neg (by show ¬ (4 : Int) = 0; decide)]
 rw [linesR_long h1, Option.bind_some, if_neg (by show ¬ (4 : Int) = 0; decide)]
theorem made_long {a b : List (List UInt8)} (h : ¬ (a.length ≤ 256 ∧ b.length ≤ 256)) : Sh.diff_made a b = some (.inl ((), .fault linesS (tooLong a) (.no 4))) := by
 unfold Sh.diff_made tooLong
 by_cases ha : 256 < (a.length : Int)
 ·
  rw [if_pos ha, if_pos ha]; rfl
 rw [if_neg ha, if_neg ha, if_pos (by omega)]; rfl
theorem places_long {a b : List (List UInt8)} (h : ¬ (a.length ≤ 256 ∧ b.length ≤ 256)) : Sh.merge_places a b = some ([], .fault linesS (tooLong a) (.no 4)) := by
 unfold Sh.merge_places
 rw [if_neg h]
 unfold Sh.merge_places0 Sh.diff_Matches Sh.diff_Lines
 rw [made_long h]
 rfl
theorem chunks_long {b o t : List (List UInt8)} (h : ¬ Short b o t) : Sh.merge_Chunks b o t = some ([], .fault linesS (tooLong b) (.no 4)) := by
 unfold Short at h
 unfold Sh.merge_Chunks
 rw [if_neg h]
 unfold Sh.merge_Chunks0
 by_cases h1 : b.length ≤ 256 ∧ o.length ≤ 256
 ·
  have e : Sh.merge_places b o = some (P.places b o, Err.nil) := if_pos h1
  rw [e, Option.bind_some, if_pos (by rfl), places_long (a := b) (b := t) (by omega), Option.bind_some, if_neg (by simp [Err.isNil])]
 rw [places_long h1, Option.bind_some, if_neg (by simp [Err.isNil])]
theorem endedR (s : List UInt8) (hl : s.length ≤ 1048576) (h0 : s ≠ []) : Sh.r11_ended s = some (if [10].isSuffixOf s = true then s else s ++ [10]) := by
 apply Ok.eq
 have hp : 0 < s.length := List.length_pos_iff.2 h0
 unfold Sh.r11_ended
 have e := suffix_yes (s := s) (t := [10]) (by simp; omega)
 obtain ⟨z, hz⟩ := gl_at (l := s) (i := (s.length : Int) - 1) (by omega) (by omega)
 have hd : s.drop ((s.length : Int) - ([10] : List UInt8).length).toNat = [z] := by
   have hlt := (List.getElem?_eq_some_iff.1 hz).1
   have : ((s.length : Int) - ([10] : List UInt8).length).toNat = ((s.length : Int) - 1).toNat := by simp
   rw [this, List.drop_eq_getElem_cons hlt, (List.getElem?_eq_some_iff.1 hz).2, List.drop_of_length_le (by omega)]
 rw [hd] at e
 refine ok_jnP (fun x => x = decide ([z] = [10])) ?_ ?_
 ·
  rintro x rfl
  rw [e, ok_if]
  refine ⟨fun h => ok_some.2 (by rw [if_pos h]), fun h => ok_gd.2 ⟨by simp only [List.length_cons, List.length_nil]; omega, ok_lt.2 (ok_some.2 (by rw [if_neg h]))⟩⟩
 intro K hK
 rw [if_pos (by omega)]
 refine ok_gd.2 ⟨⟨by omega, by omega⟩, ?_⟩
 rw [gl_atv (by omega) hz, Option.bind_some]
 refine hK _ ?_
 have : ((z.toNat : Int) = 10) ↔ [z] = [10] := by
   constructor
   · intro h
     have : z = 10 := UInt8.toNat_inj.1 (by simpa using (by omega : z.toNat = 10))
     rw [this]
   · intro h
     cases h; rfl
 simp only [this]
theorem markedR (l : List (List UInt8)) (h1 : l.length ≤ 1048576) (h2 : (join l).length ≤ 1048575) : Sh.r11_marked l = some (closed l) := by
 unfold Sh.r11_marked
 rw [LP.rjoin_ok l h1 (by omega), Option.bind_some]
 by_cases h : join l = []
 ·
  rw [if_pos h]; simp [closed, h]
 rw [if_neg h, endedR _ (by omega) h, Option.bind_some]
 unfold closed
 by_cases hs : [10].isSuffixOf (join l) = true
 ·
  rw [if_pos hs, if_pos (.inr hs)]
 rw [if_neg hs, if_neg (by simp only [not_or]; exact ⟨h, hs⟩)]
theorem textR (b o t x y : List UInt8) (hb : b.length ≤ 10000) (ho : o.length ≤ 10000) (ht : t.length ≤ 10000) (hx : x.length ≤ 10000) (hy : y.length ≤ 10000) (hs : Short (P.spl b) (P.spl o) (P.spl t)) :
 Sh.r11_Text b o t x y = some (tvs x y (chunks (P.spl b) (P.spl o) (P.spl t)), nclash (chunks (P.spl b) (P.spl o) (P.spl t)), ⟨[], 0⟩) := by
 obtain ⟨h1, h2, h3⟩ := hs
 have kb : (join (P.spl b)).length ≤ 10000 := by rw [join_spl]; exact hb
 have ko : (join (P.spl o)).length ≤ 10000 := by rw [join_spl]; exact ho
 have kt : (join (P.spl t)).length ≤ 10000 := by rw [join_spl]; exact ht
 have hl := (chunks_parts _ _ _ h1 h2 h3).2.2.2.2
 have hT := tvs_small h1 h2 h3 kb ko kt hx hy
 have hS := chunks_small h1 h2 h3 kb ko kt
 apply Ok.eq
 unfold Sh.r11_Text
 rw [LP.rsplit_ok b (by omega), Option.bind_some, LP.rsplit_ok o (by omega), Option.bind_some, LP.rsplit_ok t (by omega), Option.bind_some, chunksR h1 h2 h3, Option.bind_some, if_pos (by rfl)]
 generalize chunks (P.spl b) (P.spl o) (P.spl t) = cs at *
 dsimp only
 have hlen : (cs.map toRC).length = cs.length := List.length_map ..
 rw [hlen]
 refine ok_iter (I := fun s => 0 ≤ s.2.2 ∧ s.2.2 ≤ cs.length ∧ s.1 = tvs x y (cs.take s.2.2.toNat) ∧ s.2.1 = nclash (cs.take s.2.2.toNat)) (μ := fun s => (cs.length - s.2.2).toNat) ?_ ⟨by simp, by simp, rfl, rfl⟩
 rintro ⟨s, n, k⟩ ⟨k0, k1, hacc, hn⟩
 dsimp only at k0 k1 hacc hn ⊢
 have hnl := nclash_le (cs.take k.toNat)
 have hlt := List.length_take_le k.toNat cs
 by_cases hk : k < cs.length
 ·
  obtain ⟨c, hz⟩ := gl_at k0 hk
  obtain ⟨s1, s2, s3, s4, s5, s6⟩ := hS c (List.mem_of_getElem? hz)
  have ht := tvs_take (a := x) (b := y) k0 hz
  have hnc := nclash_take k0 hz
  have hle := tvs_take_le x y cs (k + 1).toNat
  rw [← hacc] at ht
  rw [← hn] at hnc
  rw [if_pos hk]
  refine ok_jnP (fun q => q.1 = tvs x y (cs.take (k + 1).toNat) ∧ q.2 = nclash (cs.take (k + 1).toNat)) ?_ ?_
  ·
   rintro ⟨s', n'⟩ ⟨p1, p2⟩
   exact ok_gd.2 ⟨⟨by omega, by omega⟩, ok_go.2 ⟨⟨by dsimp only; omega, by dsimp only; omega, p1, p2⟩, by dsimp only; omega⟩⟩
  intro K hK
  have hz' := gl_atv k0 (gl_map toRC hz)
  simp only [hz', Option.bind_some]
  by_cases hc : c.clash = true
  ·
   have e : tv x y c = clashv c x y := if_pos hc
   rw [e] at ht
   rw [ht] at hle
   rw [if_pos hc] at hnc
   have e1 : Sh.r11_marked (toRC c).ours = some (closed c.ours) := markedR c.ours (by omega) (by omega)
   have e2 : Sh.r11_marked (toRC c).theirs = some (closed c.theirs) := markedR c.theirs (by omega) (by omega)
   rw [if_neg (by simp [toRC, hc])]
   simp only [e1, e2, Option.bind_some]
   simp only [List.length_append, clashv, List.length_cons, List.length_nil] at hle
   simp only [ok_gd, ok_lt, List.length_append, List.length_cons, List.length_nil]
   refine ⟨⟨by omega, by omega⟩, by omega, by omega, by omega, by omega, by omega, by omega, by omega, by omega, by omega, hK _ ⟨?_, by rw [hnc]⟩⟩
   rw [ht]
   simp [clashv]
  have hcf : c.clash = false := by simpa using hc
  have e : tv x y c = join c.out := by unfold tv; rw [hcf]; rfl
  rw [e] at ht
  rw [ht, List.length_append] at hle
  rw [if_neg hc] at hnc
  have e1 : Sh.r11_Join (toRC c).out = some (join c.out) := LP.rjoin_ok c.out (by omega) (by omega)
  rw [if_pos (by simp [toRC, hcf])]
  simp only [e1, Option.bind_some]
  exact ok_gd.2 ⟨by omega, ok_lt.2 (hK _ ⟨ht.symm, by dsimp only; omega⟩)⟩
 rw [if_neg hk]
 rw [List.take_of_length_le (by omega)] at hacc hn
 exact ok_up.2 (ok_some.2 (by rw [hacc, hn]))
theorem textR_long (b o t x y : List UInt8) (hb : b.length ≤ 10000) (ho : o.length ≤ 10000) (ht : t.length ≤ 10000) (hs : ¬ Short (P.spl b) (P.spl o) (P.spl t)) :
 Sh.r11_Text b o t x y = some ([], 0, ⟨[⟨linesS, tooLong (P.spl b)⟩], 4⟩) := by
 unfold Sh.r11_Text
 rw [LP.rsplit_ok b (by omega), Option.bind_some, LP.rsplit_ok o (by omega), Option.bind_some, LP.rsplit_ok t (by omega), Option.bind_some, chunksR_long hs, Option.bind_some, if_neg (by show ¬ (4 : Int) = 0; decide)]
theorem text_long (b o t x y : List UInt8) (hb : b.length ≤ 10000) (ho : o.length ≤ 10000) (ht : t.length ≤ 10000) (hs : ¬ Short (P.spl b) (P.spl o) (P.spl t)) :
 Sh.merge_Text b o t x y = some ([], 0, .fault linesS (tooLong (P.spl b)) (.no 4)) := by
 unfold Sh.merge_Text
 rw [LP.split_ok b (by omega), Option.bind_some, LP.split_ok o (by omega), Option.bind_some, LP.split_ok t (by omega), Option.bind_some, chunks_long hs, Option.bind_some, if_neg (by simp [Err.isNil])]
end Go.S
end

section
namespace Go.S
open Go
def Fst {α : Type} (p : α → Bool) (l : List α) (r : Int) : Prop := (r = -1 ∧ ∀ z ∈ l, p z = false) ∨ ∃ k : Nat, r = k ∧ k < l.length ∧ (∀ z ∈ l.take k, p z = false) ∧ ∃ z, l[k]? = some z ∧ p z = true
theorem ixloop {α : Type} (p : α → Bool) (l : List α) (hb : l.length ≤ 1000000000) (F : α → Option Bool) (hF : ∀ z ∈ l, F z = some (p z)) (B : Int → Option (Int ⊕ Int))
    (hB : ∀ i, B i = if i < (l.length : Int) then (at_ l i).bind (fun z => (F z).bind (fun y => if y = true then up (some i) else gd (I64 (i + 1)) (go (i + 1)))) else up (some (-1))) : Ok (iter B 0) (Fst p l) := by
  refine ok_iter (I := fun i => 0 ≤ i ∧ i ≤ l.length ∧ ∀ z ∈ l.take i.toNat, p z = false) (μ := fun i => (l.length - i).toNat) ?_ ⟨by omega, by omega, by simp⟩
  rintro i ⟨h0, h1, h2⟩
  rw [hB]
  simp only [ok_if, ok_up, ok_bd, ok_some, ok_at]
  refine ⟨fun h => ?_, fun h => ?_⟩
  · obtain ⟨z, hz⟩ := at_get h0 h
    refine ⟨h0, z, hz, ?_⟩
    rw [hF z (List.mem_of_getElem? hz), ok_some]
    simp only [ok_if, ok_up, ok_gd, ok_go, ok_some]
    refine ⟨fun hp => .inr ⟨i.toNat, by omega, by omega, h2, z, hz, hp⟩, fun hp => ⟨⟨by omega, by omega⟩, ⟨by omega, by omega, fun y hy => ?_⟩, by omega⟩⟩
    rw [take_snoc h0 hz] at hy
    rcases List.mem_append.1 hy with q | q
    · exact h2 y q
    · rw [List.mem_singleton.1 q]; simpa using hp
  · rw [List.take_of_length_le (by omega)] at h2
    exact .inl ⟨rfl, h2⟩
theorem fst_any {α : Type} {p : α → Bool} {l : List α} {r : Int} (h : Fst p l r) : decide (0 ≤ r) = l.any p := by
  rcases h with ⟨rfl, h⟩ | ⟨k, rfl, hk, _, z, hz, hp⟩
  · have : l.any p = false := List.any_eq_false.2 fun z hz => by simp [h z hz]
    rw [this]; rfl
  · have : l.any p = true := List.any_eq_true.2 ⟨z, List.mem_of_getElem? hz, hp⟩
    rw [this]; simp
end Go.S
end

section
namespace Go.S
open Go
def goodN (n : Nat) : Bool := decide (97 ≤ n ∧ n ≤ 122) || decide (48 ≤ n ∧ n ≤ 57) || decide (n = 46) || decide (n = 45) || decide (n = 95)
theorem good_all : ∀ i : Fin 256, Sh.path_good ((i.val : Nat) : Int) = some (goodN i.val) ∧ Sh.r1_good ((i.val : Nat) : Int) = some (goodN i.val) := by decide +kernel
theorem good_ok (z : UInt8) : Sh.path_good (z.toNat : Int) = some (goodN z.toNat) := (good_all ⟨z.toNat, z.toNat_lt⟩).1
theorem rgood_ok (z : UInt8) : Sh.r1_good (z.toNat : Int) = some (goodN z.toNat) := (good_all ⟨z.toNat, z.toNat_lt⟩).2
def partS (s : List UInt8) : Bool := !(decide (s = []) || decide (s = [46]) || decide (s = [46, 46])) && s.all fun z => goodN z.toNat
theorem all_snoc {α : Type} (p : α → Bool) (l : List α) (z : α) : (l ++ [z]).all p = (l.all p && p z) := by simp
theorem all_false {α : Type} {p : α → Bool} {l : List α} {z : α} (hz : z ∈ l) (h : p z = false) : l.all p = false := by
  cases hq : l.all p with
  | false => rfl
  | true => rw [List.all_eq_true.1 hq z hz] at h; cases h
theorem part_ok {s : List UInt8} (hs : s.length ≤ 1000000000) : Sh.path_part s = some (partS s) := by
  apply Ok.eq
  unfold Sh.path_part partS
  refine ok_jnP (fun q => q = (decide (s = []) || decide (s = [46]) || decide (s = [46, 46]))) ?_ ?_
  · rintro q rfl
    generalize (decide (s = []) || decide (s = [46]) || decide (s = [46, 46])) = q
    simp only [ok_if, ok_some, ok_gd, ok_lt]
    refine ⟨fun h => by rw [h]; rfl, fun h => ⟨by omega, ?_⟩⟩
    have hq : q = false := by simpa using h
    subst hq
    rw [Bool.not_false, Bool.true_and]
    refine ok_iter (I := fun i => 0 ≤ i ∧ i ≤ s.length ∧ (s.take i.toNat).all (fun z => goodN z.toNat) = true) (μ := fun i => (s.length - i).toNat) ?_ ⟨by omega, by omega, by simp⟩
    rintro i ⟨i0, i1, i2⟩
    simp only [ok_if, ok_up, ok_bd, ok_gd, ok_go, ok_some, ok_at, good_ok]
    refine ⟨fun hi => ?_, fun hi => ?_⟩
    · obtain ⟨z, hz⟩ := at_get (l := s) i0 hi
      refine ⟨i0, z, hz, fun hb => ?_, fun hg => ⟨⟨by omega, by omega⟩, ⟨by omega, by omega, ?_⟩, by omega⟩⟩
      · exact (all_false (p := fun z : UInt8 => goodN z.toNat) (List.mem_of_getElem? hz) (by simpa using hb)).symm
      · rw [take_snoc i0 hz, all_snoc, i2]; simpa using hg
    · rw [← i2, show i.toNat = s.length by omega, List.take_length]
  · intro K hK
    simp only [ok_if]
    refine ⟨fun h => hK _ (by simp [h]), fun h1 => ⟨fun h => hK _ (by simp [h]), fun h2 => hK _ (by simp [h1, h2])⟩⟩
def checkP (p : List UInt8) : Int := if 64 < p.length then 4 else if (spl 47 p).all partS then 0 else 5
theorem pcheck_ok (p : List UInt8) : Sh.path_Check p = some (checkP p) := by
  apply Ok.eq
  unfold Sh.path_Check checkP
  simp only [ok_if, ok_some]
  refine ⟨fun h => by rw [if_pos (by omega)], fun h => ?_⟩
  rw [if_neg (by omega), split_ok 47 (by omega), Option.bind_some]
  have hpart := spl_part 47 p
  have hlen := spl_len 47 p
  have hcnt : p.count 47 ≤ p.length := List.count_le_length
  generalize spl 47 p = L at *
  refine ok_iter (I := fun i => 0 ≤ i ∧ i ≤ L.length ∧ (L.take i.toNat).all partS = true) (μ := fun i => (L.length - i).toNat) ?_ ⟨by omega, by omega, by simp⟩
  rintro i ⟨i0, i1, i2⟩
  simp only [ok_if, ok_up, ok_bd, ok_gd, ok_go, ok_some, ok_at]
  refine ⟨fun hi => ?_, fun hi => ?_⟩
  · obtain ⟨z, hz⟩ := at_get (l := L) i0 hi
    have := hpart z (List.mem_of_getElem? hz)
    refine ⟨i0, z, hz, Ok.of (part_ok (by omega)) ⟨fun hb => ?_, fun hg => ⟨⟨by omega, by omega⟩, ⟨by omega, by omega, ?_⟩, by omega⟩⟩⟩
    · rw [all_false (List.mem_of_getElem? hz) (by simpa using hb)]; rfl
    · rw [take_snoc i0 hz, all_snoc, i2]; simpa using hg
  · rw [show i.toNat = L.length by omega, List.take_length] at i2
    rw [i2]; rfl
theorem parts_ok {s : List UInt8} (hne : s ≠ []) (hs : s.length ≤ 1000000) : Sh.r1_Parts s = some (spl 47 s) := by
  apply Ok.eq
  unfold Sh.r1_Parts
  rw [if_neg hne, ok_lt]
  refine ok_iter (I := fun t => 0 ≤ t.2 ∧ t.2 ≤ s.length ∧ t.1 = spl 47 (s.take t.2.toNat)) (μ := fun t => (s.length - t.2).toNat) ?_ ⟨by simp, by simp, by simp [spl]⟩
  rintro ⟨o, i⟩ ⟨i0, i1, i2⟩
  dsimp only at i0 i1 i2 ⊢
  simp only [ok_jn, ok_if, ok_up, ok_bd, ok_gd, ok_lt, ok_go, ok_some, ok_at]
  refine ⟨fun hi => ?_, fun hi => ?_⟩
  · obtain ⟨z, hz⟩ := at_get (l := s) i0 hi
    obtain ⟨l, y, h1, h2⟩ := spl_snoc 47 z (s.take i.toNat)
    rw [← take_snoc i0 hz] at h2
    rw [← i2] at h1
    have hlen : o.length ≤ s.length + 1 := by
      rw [i2, spl_len]
      have : (s.take i.toNat).count 47 ≤ (s.take i.toNat).length := List.count_le_length
      rw [List.length_take] at this; omega
    subst h1
    have hl1 : (l ++ [y]).length = l.length + 1 := by simp
    refine ⟨i0, z, hz, fun hb => ?_, fun hb => ?_⟩
    · have hz10 : z = 47 := (byte_eq (n := 47) (by decide)).1 hb
      refine ⟨by simp; omega, ⟨by omega, by omega⟩, ⟨by omega, by omega, ?_⟩, by omega⟩
      rw [h2, if_pos hz10]; simp
    · have hz10 : ¬ z = 47 := fun e => hb ((byte_eq (n := 47) (by decide)).2 e)
      have hyl : y.length ≤ s.length := by
        have := spl_part 47 (s.take i.toNat) y (by rw [← i2]; simp)
        rw [List.length_take] at this; omega
      rw [at_last]
      refine ⟨⟨by omega, by omega⟩, ⟨by omega, by omega⟩, by omega, y, rfl, ⟨by omega, by omega⟩, ⟨i0, by omega, by omega⟩, ?_⟩
      rw [mid1 i0 hz]
      refine ⟨by simp; omega, by omega, y, rfl, ⟨by omega, by omega⟩, ⟨by omega, by omega, ?_⟩, by omega⟩
      rw [h2, if_neg hz10, show ((((l ++ [y]).length : Int) - 1).toNat) = l.length by simp]
      simp
  · rw [i2, show i.toNat = s.length by omega, List.take_length]
theorem rpcheck_ok (p : List UInt8) : Sh.r1_Check p = some (checkP p) := by
  apply Ok.eq
  unfold Sh.r1_Check checkP
  simp only [ok_if, ok_some]
  refine ⟨fun h => by rw [if_pos (by omega)], fun h => ?_⟩
  rw [if_neg (by omega)]
  by_cases hne : p = []
  · subst hne; exact Ok.of (a := (5 : Int)) rfl rfl
  rw [parts_ok hne (by omega), Option.bind_some]
  have hpart := spl_part 47 p
  have hlen := spl_len 47 p
  have hcnt : p.count 47 ≤ p.length := List.count_le_length
  generalize spl 47 p = L at *
  rw [if_neg (by omega)]
  refine ok_iter (I := fun i => 0 ≤ i ∧ i ≤ L.length ∧ (L.take i.toNat).all partS = true) (μ := fun i => (L.length - i).toNat) ?_ ⟨by omega, by omega, by simp⟩
  rintro i ⟨i0, i1, i2⟩
  simp only [ok_if, ok_up, ok_some]
  refine ⟨fun hi => ?_, fun hi => ?_⟩
  · obtain ⟨s, hs⟩ := at_get (l := L) i0 hi
    have hsl := hpart s (List.mem_of_getElem? hs)
    refine ok_jnP (fun _ => partS s = true) ?_ ?_
    · intro _ hg
      simp only [ok_gd, ok_go]
      refine ⟨⟨by omega, by omega⟩, ⟨by omega, by omega, ?_⟩, by omega⟩
      rw [take_snoc i0 hs, all_snoc, i2, hg]; rfl
    · intro K hK
      have bad : partS s = false → (5 : Int) = if L.all partS = true then 0 else 5 := fun q => by rw [all_false (List.mem_of_getElem? hs) q]; rfl
      refine ok_jnP (fun q => q = (decide (s = []) || decide (s = [46]) || decide (s = [46, 46]))) ?_ ?_
      · intro q hq
        simp only [ok_if, ok_up, ok_some]
        refine ⟨fun h => bad (by unfold partS; rw [← hq, h]; rfl), fun h => ?_⟩
        have hq' : q = false := by simpa using h
        have hP : partS s = s.all fun z => goodN z.toNat := by unfold partS; rw [← hq, hq']; simp
        refine ok_iter (I := fun k => 0 ≤ k ∧ k ≤ s.length ∧ (s.take k.toNat).all (fun z => goodN z.toNat) = true) (μ := fun k => (s.length - k).toNat) ?_ ⟨by omega, by omega, by simp⟩
        rintro k ⟨k0, k1, k2⟩
        simp only [ok_if, ok_up, ok_bd, ok_gd, ok_go, ok_some, ok_at, rgood_ok]
        refine ⟨i0, s, hs, fun hk => ?_, fun hk => hK () ?_⟩
        · obtain ⟨z, hz⟩ := at_get (l := s) k0 hk
          refine ⟨i0, s, hs, k0, z, hz, fun hb => bad ?_, fun hg => ⟨⟨by omega, by omega⟩, ⟨by omega, by omega, ?_⟩, by omega⟩⟩
          · rw [hP]; exact all_false (p := fun z : UInt8 => goodN z.toNat) (List.mem_of_getElem? hz) (by simpa using hb)
          · rw [take_snoc k0 hz, all_snoc, k2]; simpa using hg
        · rw [hP, ← k2, show k.toNat = s.length by omega, List.take_length]
      · intro K2 hK2
        simp only [ok_if, ok_bd, ok_at]
        refine ⟨i0, s, hs, fun h => hK2 _ (by simp [h]), fun h1 => ⟨i0, s, hs, fun h => hK2 _ (by simp [h]), fun h2 => ⟨i0, s, hs, hK2 _ (by simp [h1, h2])⟩⟩⟩
  · rw [show i.toNat = L.length by omega, List.take_length] at i2
    rw [i2]; rfl
def underS (p d : List UInt8) : Bool := if d = [] then !decide (p = []) else decide (d.length + 1 < p.length ∧ p.take (d.length + 1) = d ++ [47])
theorem under_ok {p d : List UInt8} (hd : d.length ≤ 1000000000) : Sh.path_Under p d = some (underS p d) := by
  apply Ok.eq
  unfold Sh.path_Under underS Sh.strings_HasPrefix Sh.internal_stringslite_HasPrefix
  simp only [ok_if, ok_some, ok_gd, ok_lt, ok_bd]
  refine ⟨fun h => by rw [if_pos h], fun h => ⟨⟨by omega, by omega⟩, fun hl => ⟨by simp; omega, ?_⟩, fun hl => ?_⟩⟩
  · rw [if_neg h]
    refine ⟨fun hp => ⟨⟨by omega, by simpa using hp⟩, ?_⟩, fun hp => ?_⟩
    · simp only [List.length_append, List.length_singleton]
      rw [show (((d.length + 1 : Nat)) : Int).toNat = d.length + 1 by omega]
      exact decide_eq_decide.2 ⟨fun q => ⟨by omega, q⟩, fun q => q.2⟩
    · simp at hp; omega
  · rw [if_neg h]
    symm; exact decide_eq_false (by omega)
theorem runder_ok {p d : List UInt8} (hd : d.length ≤ 1000000000) : Sh.r1_Under p d = some (underS p d) := by
  apply Ok.eq
  unfold Sh.r1_Under underS
  simp only [ok_if, ok_some, ok_gd, ok_lt, ok_bd, ok_at]
  refine ⟨fun h => by rw [if_pos h], fun h => ⟨⟨by omega, by omega⟩, fun hl => ⟨⟨by omega, by omega⟩, fun ht => ?_, fun ht => ?_⟩, fun hl => ?_⟩⟩
  · rw [if_neg h]
    rw [Int.toNat_natCast] at ht
    obtain ⟨z, hz⟩ := at_get (l := p) (i := d.length) (by omega) (by omega)
    refine ⟨by omega, z, hz, ?_⟩
    rw [Int.toNat_natCast] at hz
    rw [List.take_add_one, ht, hz]
    refine decide_eq_decide.2 ⟨fun q => ⟨by omega, ?_⟩, fun q => ?_⟩
    · have : z = 47 := (byte_eq (n := 47) (by decide)).1 q
      rw [this]; rfl
    · have := q.2
      simp at this
      rw [this]; rfl
  · rw [if_neg h]
    rw [Int.toNat_natCast] at ht
    symm
    refine decide_eq_false fun q => ht ?_
    have := congrArg (List.take d.length) q.2
    rw [List.take_take, Nat.min_eq_left (by omega), List.take_left] at this
    exact this
  · rw [if_neg h]
    symm; exact decide_eq_false (by omega)
def clashS (a b : List UInt8) : Bool := decide (a ≠ []) && decide (b ≠ []) && (underS a b || underS b a)
theorem clash_ok {a b : List UInt8} (ha : a.length ≤ 1000000000) (hb : b.length ≤ 1000000000) : Sh.path_Clash a b = some (clashS a b) := by
  apply Ok.eq
  unfold Sh.path_Clash clashS
  simp only [ok_if, ok_some, ok_bd, under_ok ha, under_ok hb]
  refine ⟨fun h => by simp [h], fun h => ⟨fun h2 => by simp [h2], fun h2 => ⟨fun h3 => by simp [h, h2, h3], fun h3 => by simp [h, h2, h3]⟩⟩⟩
theorem rclash_ok {a b : List UInt8} (ha : a.length ≤ 1000000000) (hb : b.length ≤ 1000000000) : Sh.r1_Clash a b = some (clashS a b) := by
  apply Ok.eq
  unfold Sh.r1_Clash clashS
  simp only [ok_if, ok_some, ok_bd, runder_ok ha, runder_ok hb]
  refine ⟨fun h => by simp [h], fun h => ⟨fun h2 => by simp [h2], fun h2 => ⟨fun h3 => by simp [h, h2, h3], fun h3 => by simp [h, h2, h3]⟩⟩⟩
end Go.S
end

section
namespace Go.S
open Go
set_option maxRecDepth 100000
theorem clip14 (l : List FilesFile) : Sh.slices_Clip_files_Row_files_File l = some l := by
 unfold Sh.slices_Clip_files_Row_files_File
 simp [lt, gd]
theorem clipS14 (l : List (List UInt8)) : Sh.slices_Clip_string_string l = some l := by
 unfold Sh.slices_Clip_string_string
 simp [lt, gd]
theorem pcmp14 (a b : List UInt8) : Sh.path_Compare a b = some (if a < b then -1 else if b < a then 1 else 0) := by
 unfold Sh.path_Compare Sh.cmp_Compare_string Sh.cmp_isNaN_string
 simp only [Option.bind_some, decide_true, Bool.not_true, Bool.false_eq_true, if_false, Go.Proofs.bytesLess_eq, decide_eq_true_eq]
 by_cases h1 : a < b
 ·
  simp [h1]
 simp only [h1, if_false, decide_false, Bool.false_or]
 by_cases h2 : a = b
 ·
  subst h2; simp [List.lt_irrefl]
 have h3 : b < a := by
   by_cases q : b < a
   · exact q
   · exact absurd (List.le_antisymm (List.not_lt.1 q) (List.not_lt.1 h1)) h2
 simp [h2, h3]
theorem half_ok {s : Int} (h0 : 0 ≤ s) (h1 : s ≤ 4000000000) : IntKind.wrap .i64 (sHr .u64 (IntKind.wrap .u64 s) 1) = s / 2 := by
 have e1 : IntKind.wrap .u64 s = s := IntWalk.u64_in _ (by omega)
 rw [e1]
 have e2 : sHr .u64 s 1 = s / 2 := by
   unfold sHr
   show s.fdiv (2 ^ 1) = s / 2
   rw [Int.fdiv_eq_ediv_of_nonneg s (by decide)]
   rfl
 rw [e2]
 exact IntWalk.i64_in _ (by omega)
def R (l : List FilesFile) : Prop := l.Pairwise (fun a b => a.path < b.path)
theorem R.sub {l l' : List FilesFile} (h : R l) (s : l'.Sublist l) : R l' := List.Pairwise.sublist s h
theorem R.uniq {l : List FilesFile} (h : R l) {a b : FilesFile} (ha : a ∈ l) (hb : b ∈ l) (e : a.path = b.path) : a = b := by
 obtain ⟨i, hi⟩ := List.getElem?_of_mem ha
 obtain ⟨j, hj⟩ := List.getElem?_of_mem hb
 obtain ⟨hi1, hi2⟩ := List.getElem?_eq_some_iff.1 hi
 obtain ⟨hj1, hj2⟩ := List.getElem?_eq_some_iff.1 hj
 rcases Nat.lt_trichotomy i j with q | q | q
 ·
  have := List.pairwise_iff_getElem.1 h i j hi1 hj1 q
  rw [hi2, hj2, e] at this
  exact absurd this (List.lt_irrefl _)
 ·
  subst q; rw [← hi2, ← hj2]
 have := List.pairwise_iff_getElem.1 h j i hj1 hi1 q
 rw [hi2, hj2, e] at this
 exact absurd this (List.lt_irrefl _)
theorem R.ext {l l' : List FilesFile} (h : R l) (h' : R l') (m : ∀ z, z ∈ l ↔ z ∈ l') : l = l' := by
 have nd : ∀ {l : List FilesFile}, R l → l.Nodup := fun {l} h => by
   unfold R at h
   exact List.Pairwise.imp (fun {a b} (q : a.path < b.path) (e : a = b) => List.lt_irrefl b.path (e ▸ q)) h
 refine List.Perm.eq_of_pairwise (le := fun a b => a.path ≤ b.path) (fun a b ha hb h1 h2 => h.uniq ha ((m b).2 hb) (List.le_antisymm h1 h2)) (h.imp fun q => List.le_of_lt q) (h'.imp fun q => List.le_of_lt q) ((List.perm_ext_iff_of_nodup (nd h) (nd h')).2 m)
def gt (l : List FilesFile) (p : List UInt8) : Option FilesFile := l.find? (fun f => decide (f.path = p))
theorem gt_some {l : List FilesFile} (h : R l) {p : List UInt8} {z : FilesFile} : gt l p = some z ↔ z ∈ l ∧ z.path = p := by
 unfold gt
 constructor
 ·
  intro q
  exact ⟨List.mem_of_find?_eq_some q, by simpa using List.find?_some q⟩
 rintro ⟨hz, rfl⟩
 cases hq : l.find? (fun f => decide (f.path = z.path)) with
 | none => have := List.find?_eq_none.1 hq z hz; simp at this
 | some y =>
   have h1 := List.mem_of_find?_eq_some hq
   have h2 : y.path = z.path := by simpa using List.find?_some hq
   rw [h.uniq h1 hz h2]
theorem gt_none {l : List FilesFile} {p : List UInt8} : gt l p = none ↔ ∀ z ∈ l, z.path ≠ p := by
 unfold gt
 rw [List.find?_eq_none]
 simp
structure At (x : List FilesFile) (p : List UInt8) (i : Int) : Prop where
  i0 : 0 ≤ i
  i1 : i ≤ x.length
  lo : ∀ f ∈ x.take i.toNat, f.path < p
  hi : ∀ f ∈ x.drop i.toNat, ¬ f.path < p
theorem R.take_lt {x : List FilesFile} (h : R x) {i : Nat} {z : FilesFile} (hz : x[i]? = some z) : ∀ f ∈ x.take i, f.path < z.path := fun f hf => by
  obtain ⟨j, hj⟩ := List.getElem?_of_mem hf
  rw [List.getElem?_take] at hj
  split at hj
  · next q =>
    obtain ⟨a1, a2⟩ := List.getElem?_eq_some_iff.1 hj
    obtain ⟨b1, b2⟩ := List.getElem?_eq_some_iff.1 hz
    have := List.pairwise_iff_getElem.1 h j i a1 b1 q
    rwa [a2, b2] at this
  · cases hj
theorem R.drop_gt {x : List FilesFile} (h : R x) {i : Nat} {z : FilesFile} (hz : x[i]? = some z) : ∀ f ∈ x.drop (i + 1), z.path < f.path := fun f hf => by
  obtain ⟨j, hj⟩ := List.getElem?_of_mem hf
  rw [List.getElem?_drop] at hj
  obtain ⟨a1, a2⟩ := List.getElem?_eq_some_iff.1 hj
  obtain ⟨b1, b2⟩ := List.getElem?_eq_some_iff.1 hz
  have := List.pairwise_iff_getElem.1 h i (i + 1 + j) b1 a1 (by omega)
  rwa [a2, b2] at this
theorem drop_cons' {α : Type} {x : List α} {i : Nat} {z : α} (hz : x[i]? = some z) : x.drop i = z :: x.drop (i + 1) := by
 obtain ⟨b1, b2⟩ := List.getElem?_eq_some_iff.1 hz
 rw [List.drop_eq_getElem_cons b1, b2]
theorem find14 {x : List FilesFile} (h : R x) (hb : x.length ≤ 100000000) (p : List UInt8) : Ok (Sh.files_Row_find x p) fun r => At x p r.1 ∧ (r.2 = true ↔ ∃ z, x[r.1.toNat]? = some z ∧ z.path = p) := by
 unfold Sh.files_Row_find Sh.slices_BinarySearchFunc_files_Row_files_File_string
 rw [ok_bd]
 refine ok_iter (I := fun t => 0 ≤ t.1 ∧ t.1 ≤ t.2 ∧ t.2 ≤ x.length ∧ (∀ f ∈ x.take t.1.toNat, f.path < p) ∧ (∀ f ∈ x.drop t.2.toNat, ¬ f.path < p)) (μ := fun t => (t.2 - t.1).toNat) ?_ ⟨by simp, by simp, by simp, by simp, by simp⟩
 rintro ⟨i, j⟩ ⟨i0, i1, i2, i3, i4⟩
 dsimp only at i0 i1 i2 i3 i4 ⊢
 simp only [ok_if, ok_up, ok_gd]
 refine ⟨fun hij => ⟨⟨by omega, by omega⟩, ?_⟩, fun hij => ?_⟩
 ·
  rw [half_ok (by omega) (by omega)]
  obtain ⟨z, hz⟩ := at_get (l := x) (i := (i + j) / 2) (by omega) (by omega)
  rw [ok_bd, ok_at]
  refine ⟨by omega, z, hz, ?_⟩
  unfold Sh.files_Row_find_1
  rw [pcmp14, Option.bind_some, Option.bind_some]
  simp only [ok_if, ok_gd, ok_go]
  refine ⟨fun hc => ⟨⟨by omega, by omega⟩, ⟨by omega, by omega, by omega, fun f hf => ?_, i4⟩, by omega⟩, fun hc => ⟨⟨i0, by omega, by omega, i3, fun f hf => ?_⟩, by omega⟩⟩
  ·
   have hzp : z.path < p := by
     by_cases q : z.path < p
     · exact q
     · rw [if_neg q] at hc; split at hc <;> omega
   rw [show ((i + j) / 2 + 1).toNat = ((i + j) / 2).toNat + 1 by omega, List.take_add_one, hz] at hf
   rcases List.mem_append.1 hf with q | q
   ·
    exact List.lt_trans (h.take_lt hz f q) hzp
   have : f = z := by simpa using q
   rw [this]; exact hzp
  have hzp : ¬ z.path < p := fun q => hc (by rw [if_pos q]; omega)
  rw [drop_cons' hz] at hf
  rcases List.mem_cons.1 hf with q | q
  ·
   rw [q]; exact hzp
  intro hlt
  exact hzp (List.lt_trans (h.drop_gt hz f q) hlt)
 have hji : j = i := by omega
 subst hji
 simp only [ok_bd, ok_at, ok_some]
 refine ⟨fun hl => ?_, fun hl => ⟨⟨i0, i2, i3, i4⟩, ?_⟩⟩
 ·
  obtain ⟨z, hz⟩ := at_get (l := x) i0 hl
  refine ⟨i0, z, hz, ?_⟩
  unfold Sh.files_Row_find_1
  rw [pcmp14, Option.bind_some, ok_some]
  refine ⟨⟨i0, i2, i3, i4⟩, ?_⟩
  rw [decide_eq_true_eq]
  have hnl : ¬ z.path < p := i4 z (by rw [drop_cons' hz]; exact List.mem_cons_self ..)
  rw [if_neg hnl]
  constructor
  ·
   intro q
   refine ⟨z, hz, ?_⟩
   by_cases hp : p < z.path
   ·
    rw [if_pos hp] at q; omega
   exact List.le_antisymm (List.not_lt.1 hp) (List.not_lt.1 hnl)
  rintro ⟨y, hy, rfl⟩
  rw [hz] at hy; cases hy
  rw [if_neg (List.lt_irrefl _)]
 simp only [Bool.false_eq_true, false_iff]
 rintro ⟨z, hz, _⟩
 have := get_lt hz
 omega
theorem At.none {x : List FilesFile} {p : List UInt8} {i : Int} (h : R x) (a : At x p i) (hn : ¬ ∃ z, x[i.toNat]? = some z ∧ z.path = p) : ∀ z ∈ x, z.path ≠ p := fun z hz e => by
  rw [← List.take_append_drop i.toNat x] at hz
  rcases List.mem_append.1 hz with q | q
  · exact List.lt_irrefl p (e ▸ a.lo z q)
  · obtain ⟨y, hy⟩ : ∃ y, x[i.toNat]? = some y := by
      cases hq : x[i.toNat]? with
      | some y => exact ⟨y, rfl⟩
      | none =>
        have := List.getElem?_eq_none_iff.1 hq
        rw [List.drop_of_length_le this] at q; cases q
    have hyp : y.path ≠ p := fun e' => hn ⟨y, hy, e'⟩
    rw [drop_cons' hy] at q
    rcases List.mem_cons.1 q with q | q
    · rw [q] at e; exact hyp e
    · have h1 := h.drop_gt hy z q
      rw [e] at h1
      have h2 := a.hi y (by rw [drop_cons' hy]; exact List.mem_cons_self ..)
      exact h2 h1
def getF (x : List FilesFile) (p : List UInt8) : FilesFile × Bool := match gt x p with | some f => (f, true) | none => (⟨[], 0, []⟩, false)
theorem getF_some {x : List FilesFile} {p : List UInt8} {f : FilesFile} (h : gt x p = some f) : getF x p = (f, true) := by unfold getF; rw [h]
theorem getF_none {x : List FilesFile} {p : List UInt8} (h : gt x p = none) : getF x p = (⟨[], 0, []⟩, false) := by unfold getF; rw [h]
theorem get14 {x : List FilesFile} (h : R x) (hb : x.length ≤ 100000000) (p : List UInt8) : Sh.files_Row_Get x p = some (getF x p) := by
 apply Ok.eq
 unfold Sh.files_Row_Get
 refine ok_bd.2 ((find14 h hb p).mono fun r ⟨ha, hr⟩ => ?_)
 simp only [ok_if, ok_some]
 refine ⟨fun hn => ?_, fun hn => ?_⟩
 ·
  have hf : ¬ r.2 = true := by simpa using hn
  have := ha.none h fun q => hf (hr.2 q)
  rw [getF_none (gt_none.2 this)]
 have hf : r.2 = true := by simpa using hn
 obtain ⟨z, hz, hp⟩ := hr.1 hf
 rw [ok_bd, ok_at]
 refine ⟨ha.i0, z, hz, ?_⟩
 rw [ok_some, getF_some ((gt_some h).2 ⟨List.mem_of_getElem? hz, hp⟩)]
def putF (r : List FilesFile) (f : FilesFile) : List FilesFile := r.filter (fun z => decide (z.path < f.path)) ++ [f] ++ r.filter (fun z => decide (f.path < z.path))
theorem putF_mem (x : List FilesFile) (f z : FilesFile) : z ∈ putF x f ↔ z = f ∨ z ∈ x ∧ z.path ≠ f.path := by
 unfold putF
 simp only [List.mem_append, List.mem_singleton, List.mem_filter, decide_eq_true_eq]
 constructor
 ·
  rintro ((⟨a, b⟩ | a) | ⟨a, b⟩)
  ·
   exact .inr ⟨a, fun e => List.lt_irrefl _ (e ▸ b)⟩
  ·
   exact .inl a
  exact .inr ⟨a, fun e => List.lt_irrefl _ (e ▸ b)⟩
 rintro (a | ⟨a, b⟩)
 ·
  exact .inl (.inr a)
 by_cases q : z.path < f.path
 ·
  exact .inl (.inl ⟨a, q⟩)
 by_cases q2 : f.path < z.path
 ·
  exact .inr ⟨a, q2⟩
 exact absurd (List.le_antisymm (List.not_lt.1 q2) (List.not_lt.1 q)) b
theorem putF_R {x : List FilesFile} (h : R x) (f : FilesFile) : R (putF x f) := by
 unfold putF R
 rw [List.append_assoc, List.pairwise_append]
 refine ⟨h.sub List.filter_sublist, ?_, fun a ha b hb => ?_⟩
 ·
  refine List.pairwise_append.2 ⟨List.pairwise_singleton _ _, h.sub List.filter_sublist, fun a ha b hb => ?_⟩
  rw [List.mem_singleton.1 ha]
  exact of_decide_eq_true (List.mem_filter.1 hb).2
 have h1 : a.path < f.path := of_decide_eq_true (List.mem_filter.1 ha).2
 rcases List.mem_append.1 hb with q | q
 ·
  rw [List.mem_singleton.1 q]; exact h1
 have h2 : f.path < b.path := of_decide_eq_true (List.mem_filter.1 q).2
 exact List.lt_trans h1 h2
end Go.S
end
