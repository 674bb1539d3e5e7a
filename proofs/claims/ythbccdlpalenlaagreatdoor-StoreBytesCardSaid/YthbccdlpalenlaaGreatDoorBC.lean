/- Part of the proofs of: the law StoreBytes: any bytes loaded: a store of which all holds, or an error; what it tells is loaded as itself (any bytes) -/
import Derived.Test.YthbccdlpalenlaaGreatDoorBB
set_option linter.unusedVariables false
set_option linter.unusedSimpArgs false
set_option linter.unusedSectionVars false
section
set_option linter.unusedVariables false
namespace Go.Proofs.YthbccdlpalenlaaGreatDoor
set_option maxHeartbeats 40000000
set_option maxRecDepth 100000
open Go.RowKit Go.V
open Go.S hiding Str
theorem store_Store_Put_ct (s_0_b : Nat) (s_0 : StoreStore) (o_1 : ObjectObject) {r : Int × Err × StoreStoreP} (hS : Sh.store_Store_Put s_0.pl o_1.pl = some r) :
 Ct Tryz.prog 45 [ptr s_0_b 0, .agg #[i64 o_1.kind, o_1.data.val, o_1.items.val, i64 o_1.tree, o_1.parents.val, i64 o_1.time, str o_1.text]] ((MAl s_0.l.l).and (o_1.data.ok.and (o_1.items.ok.and o_1.parents.ok))) (Ow.star (Sv.own s_0.l 34) (Ow.star (Mv.own s_0.by_ Tryz.prog 9 3 kStr kInt) (Blk s_0_b [s_0.l.val, s_0.by_.val] 139))) (X := Int × Er × StoreStore) (fun x => .tuple #[i64 x.1, x.2.1.val]) (fun x => r = (x.1, x.2.1.pl, x.2.2.pl)) (fun x => (x.2.1.ok.and (MAl x.2.2.l.l))) (fun x => Ow.star (Blk s_0_b [x.2.2.l.val, x.2.2.by_.val] 139) (Ow.star (Sv.own x.2.2.l 34) (Mv.own x.2.2.by_ Tryz.prog 9 3 kStr kInt))) := by
 refine Ct.of Tryz.func45 rfl (by kernel_rfl) Tryz.ntmps45 (by simp) fun c => ?_
 unfold Sh.store_Store_Put at hS
 refine Zq (Zr ?_)
 refine VL.box (cs := [i64 o_1.kind, o_1.data.val, o_1.items.val, i64 o_1.tree, o_1.parents.val, i64 o_1.time, str o_1.text]) rfl rfl (by decide) fun b3_1 => ?_
 refine Za ?_
 refine Za ?_
 refine Zl ?_
 refine Zq (Zr ?_)
 refine VL.q (q_fes gagg34 rfl rfl) (by decide) ?_
 obtain ⟨y16_2, ey16_2, hS⟩ := bd_s hS
 refine VL.callO (object_Encode_ct o_1 ey16_2) rfl (by decide) ?_
 rintro ⟨q16_2_0, q16_2_1⟩ rfl
 try dsimp only
 refine Zm ?_
 refine VL.q (q_extract rfl rfl) (by decide) ?_
 refine VL.q (q_extract rfl rfl) (by decide) ?_
 refine Za ?_
 refine Za ?_
 refine Zl ?_
 refine VC.keep (ρ' := [(0, ptr s_0_b 0), (3, ptr b3_1 0), (6, q16_2_0.val), (7, q16_2_1.val)]) [0, 3, 6, 7] rfl ?_
 refine Zq (Zq (Zr ?_))
 refine Zm ?_
 refine VL.q (q_erne Tryz.underlying26 rfl) (by decide) ?_
 refine Zl ?_
 refine VC.cond_ndec rfl (fun h20 => ?_) (fun h20 => ?_)
 ·
  replace hS := it_f h20 hS
  refine Zq (Zr ?_)
  refine Zm ?_
  refine Za ?_
  refine Za ?_
  refine Zl ?_
  cases hS
  exact VC.ret (fin2 (.inr rfl) rfl rfl rfl (0, q16_2_1, ⟨s_0.l, s_0.by_⟩) rfl rfl (by (try dsimp only); exact InM.out) (by (try dsimp only); exact EntO.out))
 replace hS := it_t h20 hS
 refine Zk ?_
 refine Zq (Zr ?_)
 refine VL.q (q_fes gagg34 rfl rfl) (by decide) ?_
 obtain ⟨y24_3, ey24_3, hS⟩ := bd_s hS
 refine VL.callO (store_refs_ct o_1 ey24_3) rfl (by decide) ?_
 rintro ⟨q24_3_0, q24_3_1⟩ rfl
 try dsimp only
 refine Zm ?_
 refine VL.q (q_extract rfl rfl) (by decide) ?_
 refine VL.q (q_extract rfl rfl) (by decide) ?_
 refine Za ?_
 refine Za ?_
 refine Zl ?_
 refine VC.keep (ρ' := [(0, ptr s_0_b 0), (3, ptr b3_1 0), (6, q16_2_0.val), (8, q24_3_0.val), (9, q24_3_1.val)]) [0, 3, 6, 8, 9] rfl ?_
 refine Zq (Zq (Zr ?_))
 refine Zm ?_
 refine VL.q (q_ln (s := q24_3_0) Tryz.underlying32 rfl) (by decide) ?_
 refine Zm ?_
 refine Zl ?_
 refine Zb ?_
 refine VC.iter (S := Int) (fun (x29_4 : Int) => x29_4) (fun (x29_4 : Int) => [(0, ptr s_0_b 0), (3, ptr b3_1 0), (6, q16_2_0.val), (9, q24_3_1.val), (27, q24_3_0.val), (28, i64 (q24_3_0.l.length : Int)), (29, i64 x29_4)]) (fun (x29_4 : Int) => Mo.tt) (fun (x29_4 : Int) => Ow.star (Blk b3_1 [i64 o_1.kind, o_1.data.val, o_1.items.val, i64 o_1.tree, o_1.parents.val, i64 o_1.time, str o_1.text] 34) (Ow.star (Blk s_0_b [s_0.l.val, s_0.by_.val] 139) (Ow.star (Sv.own q24_3_1 3) (Ow.star (Sv.own q24_3_0 3) (Ow.star (Sv.own q16_2_0 5) (Ow.star (Sv.own s_0.l 34) (Ow.star (Mv.own s_0.by_ Tryz.prog 9 3 kStr kInt) (Ow.emp)))))))) 0 [0, 3, 6, 9, 27, 28, 29] hS rfl ?_
 clear hS
 rintro x29_4 m1 y1 hS hK1
 show VC _ _ _ _ _ [(0, ptr s_0_b 0), (3, ptr b3_1 0), (6, q16_2_0.val), (9, q24_3_1.val), (27, q24_3_0.val), (28, i64 (q24_3_0.l.length : Int)), (29, i64 x29_4)] (Mo.and Mo.tt _) (Ow.star (Blk b3_1 [i64 o_1.kind, o_1.data.val, o_1.items.val, i64 o_1.tree, o_1.parents.val, i64 o_1.time, str o_1.text] 34) (Ow.star (Blk s_0_b [s_0.l.val, s_0.by_.val] 139) (Ow.star (Sv.own q24_3_1 3) (Ow.star (Sv.own q24_3_0 3) (Ow.star (Sv.own q16_2_0 5) (Ow.star (Sv.own s_0.l 34) (Ow.star (Mv.own s_0.by_ Tryz.prog 9 3 kStr kInt) (Ow.emp))))))))
 refine Zq (Zr ?_)
 refine VL.q (q_lss rfl rfl) (by decide) ?_
 refine Zl ?_
 refine Zq ?_
 refine VC.cond_dec rfl (fun h30 => ?_) (fun h30 => ?_)
 ·
  replace hS := it_t h30 hS
  refine Zk ?_
  refine Zq (Zb (Zq (Zr ?_)))
  refine Zm ?_
  obtain ⟨z32_5, nz32_5, hz32_5, hS⟩ := at_s hS
  refine VL.q (q_ixo (s := q24_3_0) Tryz.underlying32 gsz3 rfl rfl nz32_5 (lt_of_get nz32_5 hz32_5)) (by decide) ?_
  refine VL.q (q_elo (s := q24_3_0) 3 gone3 rfl hz32_5 rfl) (by decide) ?_
  refine Za ?_
  refine Za ?_
  refine Zl ?_
  refine Zq ?_
  refine VC.draw [(0, true), (1, true), (3, true), (4, true), (5, true), (6, true), (2, false), (7, true)] mixed (by kernel_rfl) (by kernel_rfl) (by kernel_rfl) ?_
  refine VD.q rfl (q_move rfl) (by decide) ?_
  refine VD.q rfl (q_move rfl) (by decide) ?_
  refine VD.q rfl (q_move rfl) (by decide) ?_
  refine VD.q rfl (q_move rfl) (by decide) ?_
  obtain ⟨z39_6, nz39_6, hz39_6, hS⟩ := at_s hS
  refine VD.q rfl (q_ixo (s := q24_3_1) Tryz.underlying32 gsz3 rfl rfl nz39_6 (lt_of_get nz39_6 hz39_6)) (by decide) ?_
  refine VD.q rfl (q_elo (s := q24_3_1) 3 gone3 rfl hz39_6 rfl) (by decide) ?_
  refine VD.one rfl ?_
  obtain ⟨y36_7, ey36_7, hS⟩ := bd_s hS
  refine VL.callO (store_Store_kind_ct s_0_b s_0 z32_5 ey36_7) rfl (by decide) ?_
  rintro _ _
  try dsimp only
  refine VL.back (D' := [(6, i64 z39_6), (5, ptr q24_3_1.b (q24_3_1.o + (x29_4).toNat * Dat.sz Int + 0))]) (by kernel_rfl) (Pend.cons rfl (q_elo (s := q24_3_1) 3 gone3 rfl hz39_6 rfl) (Pend.cons rfl (q_ixo (s := q24_3_1) Tryz.underlying32 gsz3 rfl rfl nz39_6 (lt_of_get nz39_6 hz39_6)) (Pend.nil))) ?_
  refine VD.q rfl (q_neq rfl rfl) (by decide) ?_
  refine VD.to (fun _ _ h => h) ?_
  refine VC.keep (ρ' := [(0, ptr s_0_b 0), (3, ptr b3_1 0), (6, q16_2_0.val), (9, q24_3_1.val), (27, q24_3_0.val), (28, i64 (q24_3_0.l.length : Int)), (29, i64 x29_4), (11, i64 z32_5), (41, .bool (!decide (y36_7 = z39_6)))]) [0, 3, 6, 9, 27, 28, 29, 11, 41] rfl ?_
  refine VC.cond_ndec rfl (fun h41 => ?_) (fun h41 => ?_)
  ·
   replace hS := it_f h41 hS
   refine Zq (Zr ?_)
   refine Zm ?_
   refine VL.q (q_mkif Tryz.underlying131 (fun _ h => by cases h) rfl) (by decide) ?_
   refine VL.q (q_build (vs := [(0, str [114, 101, 102]), (1, i64 z32_5), (2, (Er.no 5).val)]) (cs := #[str [114, 101, 102], i64 z32_5, (Er.no 5).val]) rfl (by kernel_rfl)) (by decide) ?_
   refine VL.box (cs := [str [114, 101, 102], i64 z32_5, (Er.no 5).val]) rfl rfl (by decide) fun b45_8 => ?_
   refine VL.shutB b45_8 ?_
   refine VL.q (q_mkif Tryz.underlying190 (fun _ h => by cases h) rfl) (by decide) ?_
   refine Za ?_
   refine Za ?_
   refine Zl ?_
   refine VC.keep (ρ' := [(4, i64 0), (5, (Er.fault b45_8 [114, 101, 102] z32_5 (Er.no 5)).val)]) [4, 5] rfl ?_
   replace hS := up2 hS hK1
   cases hS
   exact VC.ret (fin2 (.inr rfl) rfl rfl rfl (0, (Er.fault b45_8 [114, 101, 102] z32_5 (Er.no 5)), ⟨s_0.l, s_0.by_⟩) rfl rfl (by (try dsimp only); exact InM.out) (by (try dsimp only); exact EntO.out))
  replace hS := it_t h41 hS
  refine Zk ?_
  refine Zr ?_
  obtain ⟨b47, hS⟩ := gd_s hS
  refine VL.q (q_add rfl rfl b47) (by decide) ?_
  refine Zm ?_
  refine VL.rnd (x29_4 + 1) [0, 3, 6, 9, 27, 28, 29] (fun _ _ h => h) (go2 hS hK1) rfl
 replace hS := it_f h30 hS
 replace hS := up2 hS hK1
 refine Zx ?_
 refine Zq (Zq ?_)
 refine VC.draw ((List.range 12).map fun k => (k, true)) mixed (by kernel_rfl) (by kernel_rfl) (by kernel_rfl) ?_
 refine VD.q rfl (q_move rfl) (by decide) ?_
 refine VD.q rfl (q_nilCheck rfl) (by decide) ?_
 refine VD.q rfl (q_field gfa139_1 rfl) (by decide) ?_
 refine VD.q rfl (q_fe gone137 rfl rfl) (by decide) ?_
 refine VD.q rfl (q_move rfl) (by decide) ?_
 refine VD.q rfl (q_b2s (s := q16_2_0) Tryz.underlying22 Tryz.underlying5 Tryz.underlying9 rfl) (by decide) ?_
 obtain ⟨b55, hS⟩ := gd_s hS
 refine VD.q rfl (q_lookMv (m := s_0.by_) (a0 := q16_2_0.l) (Maps.string_keyed Tryz.underlying9) Tryz.underlying137 Tryz.underlying3 gzm3 rfl rfl (keyS Tryz.underlying9 b55)) (by decide) ?_
 refine VD.q rfl (q_move rfl) (by decide) ?_
 refine VD.q rfl (q_extract rfl rfl) (by decide) ?_
 refine VD.q rfl (q_extract rfl rfl) (by decide) ?_
 refine VD.q rfl (q_assign rfl) (by decide) ?_
 refine VD.q rfl (q_assign rfl) (by decide) ?_
 refine VD.to (fun _ _ h => h) ?_
 refine VC.keep (ρ' := [(0, ptr s_0_b 0), (3, ptr b3_1 0), (6, q16_2_0.val), (12, i64 ((mget s_0.by_.l q16_2_0.l).getD 0)), (13, .bool ((mget s_0.by_.l q16_2_0.l).isSome))]) [0, 3, 6, 12, 13] rfl ?_
 refine Zq (Zr ?_)
 refine Zm ?_
 refine Zl ?_
 refine VC.cond rfl (fun h58 => ?_) (fun h58 => ?_)
 ·
  replace hS := it_t h58 hS
  refine Zq (Zr ?_)
  refine Zm ?_
  refine Za ?_
  refine Za ?_
  refine Zl ?_
  cases hS
  exact VC.ret (fin2 (.inr rfl) rfl rfl rfl (((mget s_0.by_.l q16_2_0.l).getD 0), .nil, ⟨s_0.l, s_0.by_⟩) rfl rfl (by (try dsimp only); exact InM.out) (by (try dsimp only); exact EntO.out))
 replace hS := it_b h58 hS
 refine Zk ?_
 refine Zq (Zq (Zr ?_))
 refine Zm ?_
 refine VL.q (q_nilCheck rfl) (by decide) ?_
 refine VL.q (q_field gfa139_0 rfl) (by decide) ?_
 refine VL.q (q_fe gone136 rfl rfl) (by decide) ?_
 refine VL.q (q_lnm ObjectObject.pl (s := s_0.l) Tryz.underlying136 rfl) (by decide) ?_
 refine VL.q (q_geq rfl rfl) (by decide) ?_
 refine Zl ?_
 refine VC.keep (ρ' := [(0, ptr s_0_b 0), (3, ptr b3_1 0), (6, q16_2_0.val), (65, .bool (decide (4096 ≤ ((s_0.l.l.map ObjectObject.pl).length : Int))))]) [0, 3, 6, 65] rfl ?_
 refine VC.cond_dec rfl (fun h65 => ?_) (fun h65 => ?_)
 ·
  replace hS := it_t h65 hS
  refine Zq ?_
  refine VC.draw [(0, true), (1, true), (2, true), (3, true), (4, true), (5, true), (6, true), (9, true), (7, false), (8, true), (10, true)] mixed (by kernel_rfl) (by kernel_rfl) (by kernel_rfl) ?_
  refine VD.q rfl (q_move rfl) (by decide) ?_
  refine VD.q rfl (q_nilCheck rfl) (by decide) ?_
  refine VD.q rfl (q_field gfa139_0 rfl) (by decide) ?_
  refine VD.q rfl (q_fe gone136 rfl rfl) (by decide) ?_
  refine VD.q rfl (q_lnm ObjectObject.pl (s := s_0.l) Tryz.underlying136 rfl) (by decide) ?_
  refine VD.q rfl (q_mkif Tryz.underlying131 (fun _ h => by cases h) rfl) (by decide) ?_
  refine VD.q rfl (q_build (vs := [(0, str [115, 116, 111, 114, 101]), (1, i64 ((s_0.l.l.map ObjectObject.pl).length : Int)), (2, (Er.no 4).val)]) (cs := #[str [115, 116, 111, 114, 101], i64 ((s_0.l.l.map ObjectObject.pl).length : Int), (Er.no 4).val]) rfl (by kernel_rfl)) (by decide) ?_
  refine VD.q rfl (q_assign rfl) (by decide) ?_
  refine VD.one rfl ?_
  refine VL.box (cs := [str [115, 116, 111, 114, 101], i64 ((s_0.l.l.map ObjectObject.pl).length : Int), (Er.no 4).val]) rfl rfl (by decide) fun b73_9 => ?_
  refine VL.back (D' := [(9, i64 0)]) (by kernel_rfl) (Pend.cons rfl (q_assign rfl) (Pend.nil)) ?_
  refine VD.shutB b73_9 ?_
  refine VD.q rfl (q_mkif Tryz.underlying190 (fun _ h => by cases h) rfl) (by decide) ?_
  refine VD.q rfl (q_assign rfl) (by decide) ?_
  refine VD.to (fun _ _ h => h) ?_
  refine VC.keep (ρ' := [(4, i64 0), (5, (Er.fault b73_9 [115, 116, 111, 114, 101] ((s_0.l.l.map ObjectObject.pl).length : Int) (Er.no 4)).val)]) [4, 5] rfl ?_
  cases hS
  exact VC.ret (fin2 (.inr rfl) rfl rfl rfl (0, (Er.fault b73_9 [115, 116, 111, 114, 101] ((s_0.l.l.map ObjectObject.pl).length : Int) (Er.no 4)), ⟨s_0.l, s_0.by_⟩) rfl rfl (by (try dsimp only); exact InM.out) (by (try dsimp only); exact EntO.out))
 replace hS := it_f h65 hS
 refine Zk ?_
 refine Zq ?_
 refine VC.draw [(0, true), (1, true), (2, true), (3, true), (4, true), (5, true), (6, false), (7, false), (8, false), (9, true), (10, true), (11, false)] mixed (by kernel_rfl) (by kernel_rfl) (by kernel_rfl) ?_
 refine VD.q rfl (q_move rfl) (by decide) ?_
 refine VD.q rfl (q_move rfl) (by decide) ?_
 refine VD.q rfl (q_nilCheck rfl) (by decide) ?_
 refine VD.q rfl (q_field gfa139_0 rfl) (by decide) ?_
 refine VD.q rfl (q_fe gone136 rfl rfl) (by decide) ?_
 refine VD.q rfl (q_fes gagg34 rfl rfl) (by decide) ?_
 refine VD.one rfl ?_
 obtain ⟨y81_10, ey81_10, hS⟩ := bd_s hS
 refine VL.callF (store_apart_ct o_1 ey81_10) rfl (by decide) ?_
 rintro q81_10_0 rfl
 try dsimp only
 refine VL.back (D' := [(4, s_0.l.val), (3, ptr s_0_b 0), (2, ptr s_0_b 0)]) (by kernel_rfl) (Pend.cons rfl (q_fe gone136 rfl rfl) (Pend.cons rfl (q_field gfa139_0 rfl) (Pend.cons rfl (q_nilCheck rfl) (Pend.nil)))) ?_
 refine VD.one rfl ?_
 refine VL.lit (α := ObjectObject) (xs := [.tmp 81]) (vs := [.agg #[i64 q81_10_0.kind, q81_10_0.data.val, q81_10_0.items.val, i64 q81_10_0.tree, q81_10_0.parents.val, i64 q81_10_0.time, str q81_10_0.text]]) [⟨q81_10_0.kind, q81_10_0.data, q81_10_0.items, q81_10_0.tree, q81_10_0.parents, q81_10_0.time, q81_10_0.text⟩] Tryz.underlying136 glit34 (by decide) rfl rfl rfl rfl (by decide) (fun h m => List.forall_mem_cons.2 ⟨InM.out (X := (q81_10_0.data.ok.and (q81_10_0.items.ok.and q81_10_0.parents.ok))) h m, fun _ h => by cases h⟩) (by decide) (fun s82_11 hs82_11 => ?_) (by decide)
 replace hS := lt_to (congrArg (List.map ObjectObject.pl) hs82_11) hS
 refine VL.back (D' := [(4, s_0.l.val), (3, ptr s_0_b 0), (2, ptr s_0_b 0)]) (by kernel_rfl) (Pend.cons rfl (q_fe gone136 rfl rfl) (Pend.cons rfl (q_field gfa139_0 rfl) (Pend.cons rfl (q_nilCheck rfl) (Pend.nil)))) ?_
 refine VD.one rfl ?_
 obtain ⟨b83, hS⟩ := gd_s hS
 refine VL.app (s := s_0.l) (r := s82_11) Tryz.underlying136 gapp34 (by decide) rfl Fo.out (ap1 (apm b83)) (ap2 (apm b83) (by decide)) (by decide) (fun s83_13 hs83_13 => ?_)
 replace hS := lt_to ((congrArg (List.map ObjectObject.pl) hs83_13).trans List.map_append) hS
 refine VL.maApp hs83_13 ?_
 refine VL.back (D' := []) (by kernel_rfl) (Pend.nil) ?_
 refine VD.q rfl (q_nilCheck rfl) (by decide) ?_
 refine VD.q rfl (q_field gfa139_0 rfl) (by decide) ?_
 refine VD.one rfl ?_
 refine VL.store (vc := [s83_13.val]) (cs' := [s83_13.val, s_0.by_.val]) rfl rfl rfl gsz136 rfl rfl (Nat.le_of_ble_eq_true rfl) rfl ?_
 refine VL.back (D' := []) (by kernel_rfl) (Pend.nil) ?_
 refine VD.to (fun _ _ h => h) ?_
 refine VC.keep (ρ' := [(0, ptr s_0_b 0), (6, q16_2_0.val)]) [0, 6] rfl ?_
 refine Zq ?_
 refine VC.draw [(0, true), (1, true), (2, true), (3, true), (4, true), (5, true), (6, true), (7, true), (8, true), (9, true), (10, true), (11, false)] mixed (by kernel_rfl) (by kernel_rfl) (by kernel_rfl) ?_
 refine VD.q rfl (q_move rfl) (by decide) ?_
 refine VD.q rfl (q_nilCheck rfl) (by decide) ?_
 refine VD.q rfl (q_field gfa139_1 rfl) (by decide) ?_
 refine VD.q rfl (q_fe gone137 rfl rfl) (by decide) ?_
 refine VD.q rfl (q_move rfl) (by decide) ?_
 refine VD.q rfl (q_b2s (s := q16_2_0) Tryz.underlying22 Tryz.underlying5 Tryz.underlying9 rfl) (by decide) ?_
 refine VD.q rfl (q_move rfl) (by decide) ?_
 refine VD.q rfl (q_nilCheck rfl) (by decide) ?_
 refine VD.q rfl (q_field gfa139_0 rfl) (by decide) ?_
 refine VD.q rfl (q_fe gone136 rfl rfl) (by decide) ?_
 refine VD.q rfl (q_lnm ObjectObject.pl (s := s83_13) Tryz.underlying136 rfl) (by decide) ?_
 refine VD.one rfl ?_
 obtain ⟨bs11, hS⟩ := gd_s hS
 refine VL.setMv (m := s_0.by_) (a0 := q16_2_0.l) (y0 := ((s83_13.l.map ObjectObject.pl).length : Int)) (Maps.string_keyed Tryz.underlying9) Tryz.underlying137 Fo.out rfl rfl rfl (keyS Tryz.underlying9 bs11.2.1) (elI Tryz.underlying3 bs11.2.2) (by exact bs11.1) fun ms11_15 hms11_15 vms11_15 => ?_
 rw [← vms11_15]
 replace hS := lt_to hms11_15 hS
 refine VL.back (D' := []) (by kernel_rfl) (Pend.nil) ?_
 refine VD.to (fun _ _ h => h) ?_
 refine VC.keep (ρ' := [(0, ptr s_0_b 0)]) [0] rfl ?_
 refine Zq (Zr ?_)
 refine Zm ?_
 refine VL.q (q_nilCheck rfl) (by decide) ?_
 refine VL.q (q_field gfa139_0 rfl) (by decide) ?_
 refine VL.q (q_fe gone136 rfl rfl) (by decide) ?_
 refine VL.q (q_lnm ObjectObject.pl (s := s83_13) Tryz.underlying136 rfl) (by decide) ?_
 refine Za ?_
 refine Za ?_
 refine Zl ?_
 cases hS
 exact VC.ret (fin2 (.inr rfl) rfl rfl rfl (((s83_13.l.map ObjectObject.pl).length : Int), .nil, ⟨s83_13, ms11_15⟩) rfl rfl (by (try dsimp only); exact InM.out) (by (try dsimp only); exact EntO.out))
theorem store_Store_Get_ct (s_0_b : Nat) (s_0 : StoreStore) (id_1 : Int) {r : ObjectObjectP × Bool} (hS : Sh.store_Store_Get s_0.pl id_1 = some r) :
 Ct Tryz.prog 14 [ptr s_0_b 0, i64 id_1] (MAl s_0.l.l) (Ow.star (Sv.own s_0.l 34) (Ow.star (Mv.own s_0.by_ Tryz.prog 9 3 kStr kInt) (Blk s_0_b [s_0.l.val, s_0.by_.val] 139))) (X := ObjectObject × Bool) (fun x => .tuple #[.agg (Dat.enc x.1).toArray, .bool x.2]) (fun x => r = (x.1.pl, x.2)) (fun x => x.1.m) (fun x => Ow.star (Blk s_0_b [s_0.l.val, s_0.by_.val] 139) (Ow.star (Sv.own s_0.l 34) (Mv.own s_0.by_ Tryz.prog 9 3 kStr kInt))) := by
 refine Ct.of Tryz.func14 rfl (by kernel_rfl) Tryz.ntmps14 (by simp) fun c => ?_
 unfold Sh.store_Store_Get at hS
 refine Zq (Zr ?_)
 refine VL.alloc (cs := [i64 0, .slice none 0 0, .slice none 0 0, i64 0, .slice none 0 0, i64 0, str []]) (by kernel_rfl) (by decide) fun b4_1 => ?_
 refine Za ?_
 refine Zl ?_
 refine Zq (Zq (Zr ?_))
 refine Zm ?_
 refine Zm ?_
 obtain ⟨y8_2, ey8_2, hS⟩ := bd_s hS
 refine VL.callO (store_Store_kind_ct s_0_b s_0 id_1 ey8_2) rfl (by decide) ?_
 rintro _ _
 try dsimp only
 refine VL.q (q_eql rfl rfl) (by decide) ?_
 refine Zl ?_
 refine VC.cond_dec rfl (fun h9 => ?_) (fun h9 => ?_)
 ·
  replace hS := it_t h9 hS
  refine Zq (Zr ?_)
  refine VL.q (q_build (vs := []) (cs := #[i64 0, .slice none 0 0, .slice none 0 0, i64 0, .slice none 0 0, i64 0, str []]) rfl (by kernel_rfl)) (by decide) ?_
  refine VL.store (vc := [i64 0, .slice none 0 0, .slice none 0 0, i64 0, .slice none 0 0, i64 0, str []]) (cs' := [i64 0, .slice none 0 0, .slice none 0 0, i64 0, .slice none 0 0, i64 0, str []]) rfl rfl rfl gsz34 rfl rfl (Nat.le_of_ble_eq_true rfl) rfl ?_
  refine Za ?_
  refine Zl ?_
  cases hS
  exact VC.ret (finG (vs := [.agg #[i64 0, .slice none 0 0, .slice none 0 0, i64 0, .slice none 0 0, i64 0, str []], .bool false]) (.inr rfl) rfl (RVs.cell gagg34 rfl rfl Rd.blk (RVs.tmp rfl (RVs.nil))) (⟨0, ⟨none, 0, []⟩, ⟨none, 0, []⟩, 0, ⟨none, 0, []⟩, 0, []⟩, false) rfl rfl (by (try dsimp only); exact InM.out) (by (try dsimp only); exact EntO.out))
 replace hS := it_f h9 hS
 refine Zk ?_
 refine Zq (Zr ?_)
 refine Zm ?_
 refine VL.q (q_nilCheck rfl) (by decide) ?_
 refine VL.q (q_field gfa139_0 rfl) (by decide) ?_
 refine VL.q (q_fe gone136 rfl rfl) (by decide) ?_
 refine Zm ?_
 obtain ⟨b16, hS⟩ := gd_s hS
 refine VL.q (q_sub rfl rfl b16) (by decide) ?_
 obtain ⟨z17_3, nz17_3, hz17_3, hS⟩ := atm_s hS
 refine VL.deepO z17_3.m hz17_3 (fun _ q => q) ?_
 refine VL.q (q_ixo (s := s_0.l) Tryz.underlying136 gsz34 rfl rfl nz17_3 (lt_of_get nz17_3 hz17_3)) (by decide) ?_
 refine VL.q (q_elso (s := s_0.l) gagg34 rfl rfl hz17_3) (by decide) ?_
 obtain ⟨y19_4, ey19_4, hS⟩ := bd_s hS
 refine VL.callF (store_apart_ct z17_3 ey19_4) rfl (by decide) ?_
 rintro q19_4_0 rfl
 try dsimp only
 refine VL.store (vc := [i64 q19_4_0.kind, q19_4_0.data.val, q19_4_0.items.val, i64 q19_4_0.tree, q19_4_0.parents.val, i64 q19_4_0.time, str q19_4_0.text]) (cs' := [i64 q19_4_0.kind, q19_4_0.data.val, q19_4_0.items.val, i64 q19_4_0.tree, q19_4_0.parents.val, i64 q19_4_0.time, str q19_4_0.text]) rfl rfl rfl gsz34 rfl rfl (Nat.le_of_ble_eq_true rfl) rfl ?_
 refine Za ?_
 refine Zl ?_
 refine VC.keep (ρ' := [(4, ptr b4_1 0), (5, .bool true)]) [4, 5] rfl ?_
 cases hS
 exact VC.ret (finG (vs := [.agg #[i64 q19_4_0.kind, q19_4_0.data.val, q19_4_0.items.val, i64 q19_4_0.tree, q19_4_0.parents.val, i64 q19_4_0.time, str q19_4_0.text], .bool true]) (.inr rfl) rfl (RVs.cell gagg34 rfl rfl Rd.blk (RVs.tmp rfl (RVs.nil))) (⟨q19_4_0.kind, q19_4_0.data, q19_4_0.items, q19_4_0.tree, q19_4_0.parents, q19_4_0.time, q19_4_0.text⟩, true) rfl rfl (by (try dsimp only); exact InM.out) (by (try dsimp only); exact EntO.out))
theorem store_Store_Find_ct (s_0_b : Nat) (s_0 : StoreStore) (o_1 : ObjectObject) {r : Int × Bool} (hS : Sh.store_Store_Find s_0.pl o_1.pl = some r) :
 Ct Tryz.prog 46 [ptr s_0_b 0, .agg #[i64 o_1.kind, o_1.data.val, o_1.items.val, i64 o_1.tree, o_1.parents.val, i64 o_1.time, str o_1.text]] ((MAl s_0.l.l).and (o_1.data.ok.and (o_1.items.ok.and o_1.parents.ok))) (Ow.star (Sv.own s_0.l 34) (Ow.star (Mv.own s_0.by_ Tryz.prog 9 3 kStr kInt) (Blk s_0_b [s_0.l.val, s_0.by_.val] 139))) (X := Unit) (fun _ => .tuple #[i64 r.1, .bool r.2]) (fun _ => True) (fun _ => Mo.tt) (fun _ => Ow.star (Blk s_0_b [s_0.l.val, s_0.by_.val] 139) (Ow.star (Sv.own s_0.l 34) (Mv.own s_0.by_ Tryz.prog 9 3 kStr kInt))) := by
 refine Ct.of Tryz.func46 rfl (by kernel_rfl) Tryz.ntmps46 (by simp) fun c => ?_
 unfold Sh.store_Store_Find at hS
 refine Zq (Zr ?_)
 refine VL.box (cs := [i64 o_1.kind, o_1.data.val, o_1.items.val, i64 o_1.tree, o_1.parents.val, i64 o_1.time, str o_1.text]) rfl rfl (by decide) fun b3_1 => ?_
 refine Za ?_
 refine Za ?_
 refine Zl ?_
 refine Zq (Zr ?_)
 refine VL.q (q_fes gagg34 rfl rfl) (by decide) ?_
 obtain ⟨y12_2, ey12_2, hS⟩ := bd_s hS
 refine VL.callO (object_Encode_ct o_1 ey12_2) rfl (by decide) ?_
 rintro ⟨q12_2_0, q12_2_1⟩ rfl
 try dsimp only
 refine Zm ?_
 refine VL.q (q_extract rfl rfl) (by decide) ?_
 refine VL.q (q_extract rfl rfl) (by decide) ?_
 refine Za ?_
 refine Za ?_
 refine Zl ?_
 refine VC.keep (ρ' := [(0, ptr s_0_b 0), (6, q12_2_0.val), (7, q12_2_1.val)]) [0, 6, 7] rfl ?_
 refine Zq (Zq (Zr ?_))
 refine Zm ?_
 refine VL.q (q_erne Tryz.underlying26 rfl) (by decide) ?_
 refine Zl ?_
 refine VC.cond_ndec rfl (fun h16 => ?_) (fun h16 => ?_)
 ·
  replace hS := it_f h16 hS
  refine Zq (Zr ?_)
  refine Za ?_
  refine Za ?_
  refine Zl ?_
  cases hS
  exact VC.ret (fin2 (.inr rfl) rfl rfl rfl () rfl trivial (fun _ _ => trivial) (by (try dsimp only); exact EntO.out))
 replace hS := it_t h16 hS
 refine Zk ?_
 refine Zq ?_
 refine VC.draw ((List.range 12).map fun k => (k, true)) mixed (by kernel_rfl) (by kernel_rfl) (by kernel_rfl) ?_
 refine VD.q rfl (q_move rfl) (by decide) ?_
 refine VD.q rfl (q_nilCheck rfl) (by decide) ?_
 refine VD.q rfl (q_field gfa139_1 rfl) (by decide) ?_
 refine VD.q rfl (q_fe gone137 rfl rfl) (by decide) ?_
 refine VD.q rfl (q_move rfl) (by decide) ?_
 refine VD.q rfl (q_b2s (s := q12_2_0) Tryz.underlying22 Tryz.underlying5 Tryz.underlying9 rfl) (by decide) ?_
 obtain ⟨b24, hS⟩ := gd_s hS
 refine VD.q rfl (q_lookMv (m := s_0.by_) (a0 := q12_2_0.l) (Maps.string_keyed Tryz.underlying9) Tryz.underlying137 Tryz.underlying3 gzm3 rfl rfl (keyS Tryz.underlying9 b24)) (by decide) ?_
 refine VD.q rfl (q_move rfl) (by decide) ?_
 refine VD.q rfl (q_extract rfl rfl) (by decide) ?_
 refine VD.q rfl (q_extract rfl rfl) (by decide) ?_
 refine VD.q rfl (q_assign rfl) (by decide) ?_
 refine VD.q rfl (q_assign rfl) (by decide) ?_
 refine VD.to (fun _ _ h => h) ?_
 refine VC.keep (ρ' := [(8, i64 ((mget s_0.by_.l q12_2_0.l).getD 0)), (9, .bool ((mget s_0.by_.l q12_2_0.l).isSome))]) [8, 9] rfl ?_
 refine Zq (Zr ?_)
 refine Zm ?_
 refine Zm ?_
 refine Za ?_
 refine Za ?_
 refine Zl ?_
 cases hS
 exact VC.ret (fin2 (.inr rfl) rfl rfl rfl () rfl trivial (fun _ _ => trivial) (by (try dsimp only); exact EntO.out))
theorem store_Store_Reach_ct (s_0_b : Nat) (s_0 : StoreStore) (ids_1 : Sv Int) {r : List Int} (hS : Sh.store_Store_Reach s_0.pl ids_1.l = some r) :
 Ct Tryz.prog 47 [ptr s_0_b 0, ids_1.val] ((MAl s_0.l.l).and ids_1.ok) (Ow.star (Sv.own s_0.l 34) (Ow.star (Mv.own s_0.by_ Tryz.prog 9 3 kStr kInt) (Blk s_0_b [s_0.l.val, s_0.by_.val] 139))) (X := Sv Int) (fun x => x.val) (fun x => r = x.l) (fun x => x.ok) (fun x => Ow.star (Blk s_0_b [s_0.l.val, s_0.by_.val] 139) (Ow.star (Sv.own s_0.l 34) (Mv.own s_0.by_ Tryz.prog 9 3 kStr kInt))) := by
 refine Ct.of Tryz.func47 rfl (by kernel_rfl) Tryz.ntmps47 (by simp) fun c => ?_
 unfold Sh.store_Store_Reach at hS
 refine Zq (Zr ?_)
 refine Za ?_
 refine Zl ?_
 refine Zq (Zr ?_)
 refine VL.mkMv (k := 3) (e := 4) (A := kInt) (B := kBool) (by decide) fun m10_1 hm10_1 => ?_
 replace hS := lt_to hm10_1 hS
 refine Za ?_
 refine Zl ?_
 refine Zq (Zr ?_)
 refine Zm ?_
 obtain ⟨y12_3, ey12_3, hS⟩ := bd_s hS
 refine VL.callO (slices_Clone_int_int_ct ids_1 ey12_3) rfl (by decide) ?_
 rintro q12_3_0 rfl
 try dsimp only
 refine Za ?_
 refine Zl ?_
 refine Zq (Zb ?_)
 refine VC.iter (S := Mv Int Bool × Sv Int) (fun sg => (sg.1.l, sg.2.l)) (fun sg => [(0, ptr s_0_b 0), (5, sg.1.val), (6, sg.2.val)]) (fun sg => Mo.tt) (fun sg => Ow.star (Blk s_0_b [s_0.l.val, s_0.by_.val] 139) (Ow.star (Sv.own s_0.l 34) (Ow.star (Mv.own s_0.by_ Tryz.prog 9 3 kStr kInt) (Ow.star (Mv.own sg.1 Tryz.prog 3 4 kInt kBool) (Ow.star (Sv.own sg.2 3) (Ow.emp)))))) (m10_1, q12_3_0) [0, 5, 6] hS rfl ?_
 clear hS
 rintro ⟨seen5_4, wait6_5⟩ m1 y1 hS hK1
 show VC _ _ _ _ _ [(0, ptr s_0_b 0), (5, seen5_4.val), (6, wait6_5.val)] (Mo.and Mo.tt _) (Ow.star (Blk s_0_b [s_0.l.val, s_0.by_.val] 139) (Ow.star (Sv.own s_0.l 34) (Ow.star (Mv.own s_0.by_ Tryz.prog 9 3 kStr kInt) (Ow.star (Mv.own seen5_4 Tryz.prog 3 4 kInt kBool) (Ow.star (Sv.own wait6_5 3) (Ow.emp))))))
 refine Zq (Zq (Zr ?_))
 refine Zm ?_
 refine VL.q (q_ln (s := wait6_5) Tryz.underlying32 rfl) (by decide) ?_
 refine VL.q (q_gtr rfl rfl) (by decide) ?_
 refine Zl ?_
 refine VC.cond_dec rfl (fun h15 => ?_) (fun h15 => ?_)
 ·
  replace hS := it_t h15 hS
  refine Zk ?_
  refine Zb (Zq (Zr ?_))
  refine Zm ?_
  refine Zm ?_
  refine VL.q (q_ln (s := wait6_5) Tryz.underlying32 rfl) (by decide) ?_
  obtain ⟨b19, hS⟩ := gd_s hS
  refine VL.q (q_sub rfl rfl b19) (by decide) ?_
  obtain ⟨z20_6, nz20_6, hz20_6, hS⟩ := at_s hS
  refine VL.q (q_ixo (s := wait6_5) Tryz.underlying32 gsz3 rfl rfl nz20_6 (lt_of_get nz20_6 hz20_6)) (by decide) ?_
  refine VL.q (q_elo (s := wait6_5) 3 gone3 rfl hz20_6 rfl) (by decide) ?_
  refine Za ?_
  refine Zl ?_
  refine VC.keep (ρ' := [(0, ptr s_0_b 0), (5, seen5_4.val), (6, wait6_5.val), (7, i64 z20_6)]) [0, 5, 6, 7] rfl ?_
  refine Zq (Zr ?_)
  refine Zm ?_
  refine Zm ?_
  refine VL.q (q_ln (s := wait6_5) Tryz.underlying32 rfl) (by decide) ?_
  obtain ⟨b25, hS⟩ := gd_s hS
  refine VL.q (q_sub rfl rfl b25) (by decide) ?_
  obtain ⟨b26, hS⟩ := gd_s hS
  refine VL.ownT (s := wait6_5) Tryz.underlying32 gsz3 rfl rfl b26.1 b26.2 Fo.out (by decide) fun s26_7 hs26_7 => ?_
  replace hS := lt_to hs26_7 hS
  refine Za ?_
  refine Zl ?_
  refine Zq (Zq (Zr ?_))
  refine Zm ?_
  refine Zm ?_
  obtain ⟨y29_9, ey29_9, hS⟩ := bd_s hS
  refine VL.callO (store_Store_kind_ct s_0_b s_0 z20_6 ey29_9) rfl (by decide) ?_
  rintro _ _
  try dsimp only
  refine VL.q (q_eql rfl rfl) (by decide) ?_
  refine Zm ?_
  refine VL.split_dec 31 rfl (fun h31 => ?_) (fun h31 => ?_)
  ·
   replace hS := it_t h31 hS
   refine VL.runs 4 [(35, some true)] (by kernel_rfl) ?_
   refine Zl ?_
   refine VC.keep (ρ' := [(0, ptr s_0_b 0), (5, seen5_4.val), (6, s26_7.val), (7, i64 z20_6), (35, .bool true)]) [0, 5, 6, 7, 35] rfl ?_
   refine VC.cond_t rfl ?_
   refine VC.exit_rnd (seen5_4, s26_7) [0, 5, 6] (fun _ _ h => h) (go2 hS hK1) rfl
  replace hS := it_f h31 hS
  refine Zg ?_
  refine Zg ?_
  obtain ⟨b34, hS⟩ := gd_s hS
  refine VL.gy rfl rfl (q_lookMb (m := seen5_4) (a0 := z20_6) (Maps.int_keyed Tryz.underlying3) Tryz.underlying223 Tryz.underlying4 gzm4 rfl rfl (keyI Tryz.underlying3 b34)) (by decide) ?_
  refine Zf ?_
  refine Zl ?_
  refine VC.keep (ρ' := [(0, ptr s_0_b 0), (5, seen5_4.val), (6, s26_7.val), (7, i64 z20_6), (35, .bool ((mget seen5_4.l z20_6).getD false))]) [0, 5, 6, 7, 35] rfl ?_
  refine VC.cond rfl (fun h35 => ?_) (fun h35 => ?_)
  ·
   replace hS := it_t h35 hS
   refine VC.exit_rnd (seen5_4, s26_7) [0, 5, 6] (fun _ _ h => h) (go2 hS hK1) rfl
  replace hS := it_b h35 hS
  refine Zk ?_
  refine Zq (Zr ?_)
  refine Zm ?_
  refine Zm ?_
  obtain ⟨bs2, hS⟩ := gd_s hS
  refine VL.setMv (m := seen5_4) (a0 := z20_6) (y0 := true) (Maps.int_keyed Tryz.underlying3) Tryz.underlying223 Fo.out rfl rfl rfl (keyI Tryz.underlying3 bs2.2) (elB Tryz.underlying4) (by exact bs2.1) fun ms2_10 hms2_10 vms2_10 => ?_
  rw [← vms2_10]
  replace hS := lt_to hms2_10 hS
  refine Zl ?_
  refine Zq (Zr ?_)
  refine Zm ?_
  refine VL.q (q_nilCheck rfl) (by decide) ?_
  refine VL.q (q_field gfa139_0 rfl) (by decide) ?_
  refine VL.q (q_fe gone136 rfl rfl) (by decide) ?_
  refine Zm ?_
  obtain ⟨b44, hS⟩ := gd_s hS
  refine VL.q (q_sub rfl rfl b44) (by decide) ?_
  obtain ⟨z45_12, nz45_12, hz45_12, hS⟩ := atm_s hS
  refine VL.deepO z45_12.m hz45_12 (fun _ q => q) ?_
  refine VL.q (q_ixo (s := s_0.l) Tryz.underlying136 gsz34 rfl rfl nz45_12 (lt_of_get nz45_12 hz45_12)) (by decide) ?_
  refine VL.q (q_elso (s := s_0.l) gagg34 rfl rfl hz45_12) (by decide) ?_
  obtain ⟨y47_13, ey47_13, hS⟩ := bd_s hS
  refine VL.callO (store_refs_ct z45_12 ey47_13) rfl (by decide) ?_
  rintro ⟨q47_13_0, q47_13_1⟩ rfl
  try dsimp only
  refine Zm ?_
  refine VL.q (q_extract rfl rfl) (by decide) ?_
  refine VL.q (q_extract rfl rfl) (by decide) ?_
  refine Za ?_
  refine Za ?_
  refine Zl ?_
  refine VC.keep (ρ' := [(0, ptr s_0_b 0), (5, ms2_10.val), (6, s26_7.val), (8, q47_13_0.val)]) [0, 5, 6, 8] rfl ?_
  refine Zr ?_
  refine Zm ?_
  refine Zm ?_
  refine VL.shut q47_13_0 3 (fun _ _ _ _ => trivial) ?_
  obtain ⟨b52, hS⟩ := gd_s hS
  refine VL.app (s := s26_7) (r := q47_13_0) Tryz.underlying32 gapp3 (by decide) rfl Fo.out (ap1 b52) (ap2 b52 (by decide)) (by decide) (fun s52_14 hs52_14 => ?_)
  replace hS := lt_to hs52_14 hS
  refine Za ?_
  refine VL.rnd (ms2_10, s52_14) [0, 5, 6] (fun _ _ h => h) (go2 hS hK1) rfl
 replace hS := it_f h15 hS
 replace hS := up2 hS hK1
 refine Zx ?_
 refine Zq (Zr ?_)
 refine Zm ?_
 refine VL.callO (Ct.mapKeys (b := seen5_4.b) (entry_of Tryz.func119 rfl (by kernel_rfl)) Tryz.mapsKeys_119) rfl (by decide) ?_
 intro B54_16 _
 try dsimp only
 obtain ⟨b55, hS⟩ := gd_s hS
 refine VL.callO (Ct.sortedKeysI (B' := kBool) (it := 193) (T := 223) (b := seen5_4.b) (B := B54_16) (e := 4) (l := seen5_4.l) (entry_of Tryz.func118 rfl (by kernel_rfl)) Tryz.underlying3 (fun D0 nn W h1 h2 h3 h4 h5 => Tryz.sortedKeys_118_119 B54_16 seen5_4.b nn D0 _ W h1 h2 h3 h4 h5) b55) rfl (by decide) ?_
 intro s55_17 hs55_17
 try dsimp only
 replace hS := lt_to hs55_17 hS
 refine VL.shut s55_17 3 (fun _ _ _ _ => trivial) ?_
 obtain ⟨y56_19, ey56_19, hS⟩ := bd_s hS
 refine VL.callF (slices_Clip_int_int_ct s55_17 ey56_19) rfl (by decide) ?_
 rintro q56_19_0 rfl
 try dsimp only
 refine Za ?_
 refine Zl ?_
 refine VC.keep (ρ' := [(4, q56_19_0.val)]) [4] rfl ?_
 cases hS
 exact VC.ret (fin1 (.inr rfl) rfl rfl q56_19_0 rfl rfl (by (try dsimp only); exact InM.out) (by (try dsimp only); exact EntO.out))
theorem store_Store_Bytes_ct (s_0_b : Nat) (s_0 : StoreStore) {r : List UInt8} (hS : Sh.store_Store_Bytes s_0.pl = some r) :
 Ct Tryz.prog 18 [ptr s_0_b 0] (MAl s_0.l.l) (Ow.star (Sv.own s_0.l 34) (Ow.star (Mv.own s_0.by_ Tryz.prog 9 3 kStr kInt) (Blk s_0_b [s_0.l.val, s_0.by_.val] 139))) (X := Sv UInt8) (fun x => x.val) (fun x => r = x.l) (fun x => x.ok) (fun x => Ow.star (Blk s_0_b [s_0.l.val, s_0.by_.val] 139) (Ow.star (Sv.own s_0.l 34) (Mv.own s_0.by_ Tryz.prog 9 3 kStr kInt))) := by
 refine Ct.of Tryz.func18 rfl (by kernel_rfl) Tryz.ntmps18 (by simp) fun c => ?_
 unfold Sh.store_Store_Bytes at hS
 refine Zq (Zr ?_)
 refine Za ?_
 refine Zl ?_
 refine Zq (Zr ?_)
 refine VL.alloc (cs := [.slice none 0 0]) (by kernel_rfl) (by decide) fun b3_1 => ?_
 refine Zl ?_
 refine Zq (Zr ?_)
 refine Zm ?_
 refine VL.q (q_nilCheck rfl) (by decide) ?_
 refine VL.q (q_field gfa139_0 rfl) (by decide) ?_
 refine VL.q (q_fe gone136 rfl rfl) (by decide) ?_
 refine VL.q (q_lnm ObjectObject.pl (s := s_0.l) Tryz.underlying136 rfl) (by decide) ?_
 refine VL.lit (α := Int) (xs := [.tmp 12]) (vs := [i64 ((s_0.l.l.map ObjectObject.pl).length : Int)]) [((s_0.l.l.map ObjectObject.pl).length : Int)] Tryz.underlying32 glit3 (by decide) rfl rfl rfl rfl (by decide) (fun _ _ _ _ => trivial) (by decide) (fun s13_2 hs13_2 => ?_) (by decide)
 replace hS := lt_to hs13_2 hS
 refine VL.nilO (⟨none, 0, []⟩ : Sv UInt8) 5 ⟨rfl, rfl⟩ ?_
 refine VL.reB b3_1 (cs' := [(⟨none, 0, []⟩ : Sv UInt8).val]) rfl ?_
 obtain ⟨y14_4, ey14_4, hS⟩ := bd_s hS
 refine VL.callO (codec_Enc_Int_ct b3_1 (⟨(⟨none, 0, []⟩ : Sv UInt8)⟩ : CodecEnc) s13_2 ey14_4) rfl (by decide) ?_
 rintro q14_4_0 rfl
 try dsimp only
 refine Zl ?_
 refine Zq (Zq (Zr ?_))
 refine Zm ?_
 refine VL.q (q_nilCheck rfl) (by decide) ?_
 refine VL.q (q_field gfa139_0 rfl) (by decide) ?_
 refine VL.q (q_fe gone136 rfl rfl) (by decide) ?_
 refine VL.q (q_lnm ObjectObject.pl (s := s_0.l) Tryz.underlying136 rfl) (by decide) ?_
 refine Zm ?_
 refine Zl ?_
 refine VC.keep (ρ' := [(3, ptr b3_1 0), (18, s_0.l.val), (19, i64 ((s_0.l.l.map ObjectObject.pl).length : Int)), (20, i64 0)]) [3, 18, 19, 20] rfl ?_
 refine Zb ?_
 refine VC.iter (S := Int × Sv UInt8) (fun sg => (sg.1, sg.2.l)) (fun sg => [(3, ptr b3_1 0), (18, s_0.l.val), (19, i64 ((s_0.l.l.map ObjectObject.pl).length : Int)), (20, i64 sg.1)]) (fun sg => Mo.tt) (fun sg => Ow.star (Blk b3_1 [sg.2.val] 147) (Ow.star (Blk s_0_b [s_0.l.val, s_0.by_.val] 139) (Ow.star (Sv.own s_0.l 34) (Ow.star (Mv.own s_0.by_ Tryz.prog 9 3 kStr kInt) (Ow.star (Sv.own sg.2 5) (Ow.emp)))))) (0, q14_4_0.b) [3, 18, 19, 20] hS rfl ?_
 clear hS
 rintro ⟨x20_5, c0_6⟩ m1 y1 hS hK1
 show VC _ _ _ _ _ [(3, ptr b3_1 0), (18, s_0.l.val), (19, i64 ((s_0.l.l.map ObjectObject.pl).length : Int)), (20, i64 x20_5)] (Mo.and Mo.tt _) (Ow.star (Blk b3_1 [c0_6.val] 147) (Ow.star (Blk s_0_b [s_0.l.val, s_0.by_.val] 139) (Ow.star (Sv.own s_0.l 34) (Ow.star (Mv.own s_0.by_ Tryz.prog 9 3 kStr kInt) (Ow.star (Sv.own c0_6 5) (Ow.emp))))))
 refine Zq (Zr ?_)
 refine VL.q (q_lss rfl rfl) (by decide) ?_
 refine Zl ?_
 refine Zq ?_
 refine VC.cond_dec rfl (fun h21 => ?_) (fun h21 => ?_)
 ·
  replace hS := it_t h21 hS
  refine Zk ?_
  refine Zq (Zb (Zq (Zr ?_)))
  obtain ⟨z22_7, nz22_7, hz22_7, hS⟩ := atm_s hS
  refine VL.deepO z22_7.m hz22_7 (fun _ q => q) ?_
  refine VL.q (q_ixo (s := s_0.l) Tryz.underlying136 gsz34 rfl rfl nz22_7 (lt_of_get nz22_7 hz22_7)) (by decide) ?_
  refine VL.q (q_elso (s := s_0.l) gagg34 rfl rfl hz22_7) (by decide) ?_
  refine VL.alloc (cs := [i64 0, .slice none 0 0, .slice none 0 0, i64 0, .slice none 0 0, i64 0, str []]) (by kernel_rfl) (by decide) fun b5_8 => ?_
  refine VL.store (vc := [i64 z22_7.kind, z22_7.data.val, z22_7.items.val, i64 z22_7.tree, z22_7.parents.val, i64 z22_7.time, str z22_7.text]) (cs' := [i64 z22_7.kind, z22_7.data.val, z22_7.items.val, i64 z22_7.tree, z22_7.parents.val, i64 z22_7.time, str z22_7.text]) rfl rfl rfl gsz34 rfl rfl (Nat.le_of_ble_eq_true rfl) rfl ?_
  refine Zl ?_
  refine Zq (Zr ?_)
  refine VL.q (q_fes gagg34 rfl rfl) (by decide) ?_
  obtain ⟨y26_9, ey26_9, hS⟩ := bd_s hS
  refine VL.callO (object_Encode_ct z22_7 ey26_9) rfl (by decide) ?_
  rintro ⟨q26_9_0, q26_9_1⟩ rfl
  try dsimp only
  refine Zm ?_
  refine VL.q (q_extract rfl rfl) (by decide) ?_
  refine VL.q (q_extract rfl rfl) (by decide) ?_
  refine Za ?_
  refine Za ?_
  refine Zl ?_
  refine VC.keep (ρ' := [(3, ptr b3_1 0), (18, s_0.l.val), (19, i64 ((s_0.l.l.map ObjectObject.pl).length : Int)), (20, i64 x20_5), (6, q26_9_0.val)]) [3, 18, 19, 20, 6] rfl ?_
  refine Zr ?_
  refine Zm ?_
  refine VL.q (q_b2s (s := q26_9_0) Tryz.underlying22 Tryz.underlying5 Tryz.underlying9 rfl) (by decide) ?_
  refine VL.lit (α := Str) (xs := [.tmp 30]) (vs := [str q26_9_0.l]) [q26_9_0.l] Tryz.underlying89 glit9 (by decide) rfl rfl rfl rfl (by decide) (fun _ _ _ _ => trivial) (by decide) (fun s31_10 hs31_10 => ?_) (by decide)
  replace hS := lt_to hs31_10 hS
  obtain ⟨y32_12, ey32_12, hS⟩ := bd_s hS
  refine VL.callO (codec_Enc_Text_ct b3_1 (⟨c0_6⟩ : CodecEnc) s31_10 ey32_12) rfl (by decide) ?_
  rintro q32_12_0 rfl
  try dsimp only
  refine Zl ?_
  refine Zr ?_
  obtain ⟨b33, hS⟩ := gd_s hS
  refine VL.q (q_add rfl rfl b33) (by decide) ?_
  refine Zm ?_
  refine VL.rnd ((x20_5 + 1), q32_12_0.b) [3, 18, 19, 20] (fun _ _ h => h) (go2 hS hK1) rfl
 replace hS := it_f h21 hS
 replace hS := up2 hS hK1
 refine Zx ?_
 refine Zq (Zr ?_)
 obtain ⟨y34_13, ey34_13, hS⟩ := bd_s hS
 refine VL.callO (codec_Enc_Bytes_ct b3_1 (⟨c0_6⟩ : CodecEnc) ey34_13) rfl (by decide) ?_
 rintro q34_13_0 rfl
 try dsimp only
 refine Za ?_
 refine Zl ?_
 cases hS
 exact VC.ret (fin1 (.inr rfl) rfl rfl q34_13_0 rfl rfl (by (try dsimp only); exact InM.out) (by (try dsimp only); exact EntO.out))
theorem codec_Of_ct (b_0 : Sv UInt8) {r : CodecDecP} (hS : Sh.codec_Of b_0.l = some r) :
 Ct Tryz.prog 49 [b_0.val] b_0.ok (Ow.emp) (X := Nat × CodecDec) (fun x => ptr x.1 0) (fun x => r = x.2.pl) (fun x => (x.2.b.ok.and x.2.err.ok)) (fun x => Blk x.1 [x.2.b.val, i64 x.2.at_, x.2.err.val] 233) := by
 refine Ct.of Tryz.func49 rfl (by kernel_rfl) Tryz.ntmps49 (by simp) fun c => ?_
 unfold Sh.codec_Of at hS
 refine Zq (Zr ?_)
 refine Za ?_
 refine Zl ?_
 refine Zq (Zr ?_)
 refine Zm ?_
 obtain ⟨y4_1, ey4_1, hS⟩ := bd_s hS
 refine VL.callO (slices_Clone_byte_byte_ct b_0 ey4_1) rfl (by decide) ?_
 rintro q4_1_0 rfl
 try dsimp only
 refine VL.q (q_build (vs := [(0, q4_1_0.val)]) (cs := #[q4_1_0.val, i64 0, .nilIface]) rfl (by kernel_rfl)) (by decide) ?_
 refine VL.box (cs := [q4_1_0.val, i64 0, .nilIface]) rfl rfl (by decide) fun b6_2 => ?_
 refine Za ?_
 refine Zl ?_
 refine VC.shut q4_1_0 5 (fun _ _ _ _ => trivial) ?_
 refine VC.reB b6_2 (cs' := [q4_1_0.val, i64 0, (Er.nil).val]) rfl ?_
 cases hS
 exact VC.ret (fin1 (.inr rfl) rfl rfl (b6_2, ⟨q4_1_0, 0, (Er.nil)⟩) rfl rfl (by (try dsimp only); exact InM.out) (by (try dsimp only); exact EntO.out))
theorem codec_Dec_uint_ct (d_0_b : Nat) (d_0 : CodecDec) {r : Int × Int × CodecDecP} (hS : Sh.codec_Dec_uint d_0.pl = some r) :
 Ct Tryz.prog 124 [ptr d_0_b 0] (d_0.b.ok.and d_0.err.ok) (Blk d_0_b [d_0.b.val, i64 d_0.at_, d_0.err.val] 233) (X := Int × Int × CodecDec) (fun x => .tuple #[.int .u64 x.1, i64 x.2.1]) (fun x => r = (x.1, x.2.1, x.2.2.pl)) (fun x => (x.2.2.b.ok.and x.2.2.err.ok)) (fun x => Blk d_0_b [x.2.2.b.val, i64 x.2.2.at_, x.2.2.err.val] 233) := by
 refine Ct.of Tryz.func124 rfl (by kernel_rfl) Tryz.ntmps124 (by simp) fun c => ?_
 unfold Sh.codec_Dec_uint at hS
 refine Zq (Zr ?_)
 refine Za ?_
 refine Za ?_
 refine Zl ?_
 refine Zq (Zr ?_)
 refine Za ?_
 refine Zl ?_
 refine Zq (Zq (Zr ?_))
 refine Zm ?_
 refine Zl ?_
 refine Zb ?_
 refine VC.iter (S := Int × Int) (fun sg => (sg.1, sg.2)) (fun sg => [(0, ptr d_0_b 0), (4, .int .u64 sg.1), (7, i64 sg.2)]) (fun sg => Mo.tt) (fun sg => Ow.star (Blk d_0_b [d_0.b.val, i64 d_0.at_, d_0.err.val] 233) (Ow.emp)) (0, 0) [0, 4, 7] hS rfl ?_
 clear hS
 rintro ⟨v4_1, x7_2⟩ m1 y1 hS hK1
 show VC _ _ _ _ _ [(0, ptr d_0_b 0), (4, .int .u64 v4_1), (7, i64 x7_2)] (Mo.and Mo.tt _) (Ow.star (Blk d_0_b [d_0.b.val, i64 d_0.at_, d_0.err.val] 233) (Ow.emp))
 refine Zq (Zr ?_)
 refine VL.q (q_lss rfl rfl) (by decide) ?_
 refine Zl ?_
 refine Zq ?_
 refine VC.cond_dec rfl (fun h8 => ?_) (fun h8 => ?_)
 ·
  replace hS := it_t h8 hS
  refine Zk ?_
  refine Zq (Zb (Zq (Zr ?_)))
  refine Zm ?_
  refine Za ?_
  refine Zl ?_
  refine Zq (Zq ?_)
  refine VC.draw ((List.range 12).map fun k => (k, true)) mixed (by kernel_rfl) (by kernel_rfl) (by kernel_rfl) ?_
  refine VD.q rfl (q_move rfl) (by decide) ?_
  refine VD.q rfl (q_nilCheck rfl) (by decide) ?_
  refine VD.q rfl (q_field gfa233_1 rfl) (by decide) ?_
  refine VD.q rfl (q_fe gone3 rfl rfl) (by decide) ?_
  refine VD.q rfl (q_move rfl) (by decide) ?_
  obtain ⟨b15, hS⟩ := gd_s hS
  refine VD.q rfl (q_add rfl rfl b15) (by decide) ?_
  refine VD.q rfl (q_move rfl) (by decide) ?_
  refine VD.q rfl (q_nilCheck rfl) (by decide) ?_
  refine VD.q rfl (q_field gfa233_0 rfl) (by decide) ?_
  refine VD.q rfl (q_fe gone22 rfl rfl) (by decide) ?_
  refine VD.q rfl (q_ln (s := d_0.b) Tryz.underlying22 rfl) (by decide) ?_
  refine VD.q rfl (q_geq rfl rfl) (by decide) ?_
  refine VD.to (fun _ _ h => h) ?_
  refine VC.keep (ρ' := [(0, ptr d_0_b 0), (4, .int .u64 v4_1), (7, i64 x7_2), (5, i64 x7_2), (21, .bool (decide ((d_0.b.l.length : Int) ≤ (d_0.at_ + x7_2))))]) [0, 4, 7, 5, 21] rfl ?_
  refine VC.cond_dec rfl (fun h21 => ?_) (fun h21 => ?_)
  ·
   replace hS := it_t h21 hS
   refine Zq (Zr ?_)
   refine Za ?_
   refine Za ?_
   refine Zl ?_
   replace hS := up2 hS hK1
   cases hS
   exact VC.ret (fin2 (.inr rfl) rfl rfl rfl (0, 3, ⟨d_0.b, d_0.at_, d_0.err⟩) rfl rfl (by (try dsimp only); exact InM.out) (by (try dsimp only); exact EntO.out))
  replace hS := it_f h21 hS
  refine Zk ?_
  refine Zq ?_
  refine VC.draw ((List.range 13).map fun k => (k, true)) mixed (by kernel_rfl) (by kernel_rfl) (by kernel_rfl) ?_
  refine VD.q rfl (q_move rfl) (by decide) ?_
  refine VD.q rfl (q_nilCheck rfl) (by decide) ?_
  refine VD.q rfl (q_field gfa233_0 rfl) (by decide) ?_
  refine VD.q rfl (q_fe gone22 rfl rfl) (by decide) ?_
  refine VD.q rfl (q_move rfl) (by decide) ?_
  refine VD.q rfl (q_nilCheck rfl) (by decide) ?_
  refine VD.q rfl (q_field gfa233_1 rfl) (by decide) ?_
  refine VD.q rfl (q_fe gone3 rfl rfl) (by decide) ?_
  refine VD.q rfl (q_move rfl) (by decide) ?_
  obtain ⟨b31, hS⟩ := gd_s hS
  refine VD.q rfl (q_add rfl rfl b31) (by decide) ?_
  obtain ⟨z32_3, nz32_3, hz32_3, hS⟩ := at_s hS
  refine VD.q rfl (q_ixm (s := d_0.b) Tryz.underlying22 gsz5 rfl rfl nz32_3 (lt_of_get nz32_3 hz32_3)) (by decide) ?_
  refine VD.q rfl (q_el (s := d_0.b) gone5 rfl hz32_3 rfl) (by decide) ?_
  refine VD.q rfl (q_assign rfl) (by decide) ?_
  refine VD.to (fun _ _ h => h) ?_
  refine VC.keep (ρ' := [(0, ptr d_0_b 0), (4, .int .u64 v4_1), (7, i64 x7_2), (5, i64 x7_2), (6, .int .u8 (z32_3.toNat : Int))]) [0, 4, 7, 5, 6] rfl ?_
  refine VC.cutJ (S := Unit) (fun (_ : Unit) => ()) (fun (_ : Unit) => [(0, ptr d_0_b 0), (4, .int .u64 v4_1), (5, i64 x7_2), (6, .int .u8 (z32_3.toNat : Int)), (7, i64 x7_2)]) (fun (_ : Unit) => Mo.tt) (fun (_ : Unit) => Ow.star (Blk d_0_b [d_0.b.val, i64 d_0.at_, d_0.err.val] 233) (Ow.emp)) hS ?_ ?_
  ·
   clear hS
   intro k4 hS
   refine Zq (Zr ?_)
   refine Zm ?_
   refine VL.q (q_eql rfl rfl) (by decide) ?_
   refine Zm ?_
   refine VL.split_dec 36 rfl (fun h36 => ?_) (fun h36 => ?_)
   ·
    replace hS := it_t h36 hS
    refine Zg ?_
    refine VL.gy rfl rfl (q_gtr rfl rfl) (by decide) ?_
    refine Zt ?_
    refine Zm ?_
    refine VL.split_dec 40 rfl (fun h40 => ?_) (fun h40 => ?_)
    ·
     replace hS := it_t h40 hS
     refine VL.runs 7 [(47, some true)] (by kernel_rfl) ?_
     refine Zl ?_
     refine VC.keep (ρ' := [(0, ptr d_0_b 0), (4, .int .u64 v4_1), (7, i64 x7_2), (5, i64 x7_2), (6, .int .u8 (z32_3.toNat : Int)), (47, .bool true)]) [0, 4, 7, 5, 6, 47] rfl ?_
     refine VC.cond_t rfl ?_
     replace hS := up2 hS hK1
     refine Zx ?_
     refine Zq (Zr ?_)
     refine Za ?_
     refine Za ?_
     refine Zl ?_
     cases hS
     exact VC.ret (fin2 (.inr rfl) rfl rfl rfl (0, 2, ⟨d_0.b, d_0.at_, d_0.err⟩) rfl rfl (by (try dsimp only); exact InM.out) (by (try dsimp only); exact EntO.out))
    replace hS := it_f h40 hS
    refine Zg ?_
    refine VL.gy rfl rfl (q_gtr rfl rfl) (by decide) ?_
    refine Zg ?_
    refine VL.split_dec 43 rfl (fun h43 => ?_) (fun h43 => ?_)
    ·
     replace hS := it_t h43 hS
     refine Zg ?_
     refine VL.gy rfl rfl (q_eql rfl rfl) (by decide) ?_
     refine VL.gy rfl rfl (q_pick_t rfl rfl) (by decide) ?_
     refine Zf ?_
     refine Zl ?_
     refine VC.keep (ρ' := [(0, ptr d_0_b 0), (4, .int .u64 v4_1), (7, i64 x7_2), (5, i64 x7_2), (6, .int .u8 (z32_3.toNat : Int)), (47, .bool (decide ((z32_3.toNat : Int) = 0)))]) [0, 4, 7, 5, 6, 47] rfl ?_
     refine VC.cond_dec rfl (fun h47 => ?_) (fun h47 => ?_)
     ·
      replace hS := it_t h47 hS
      replace hS := up2 hS hK1
      refine Zx ?_
      refine Zq (Zr ?_)
      refine Za ?_
      refine Za ?_
      refine Zl ?_
      cases hS
      exact VC.ret (fin2 (.inr rfl) rfl rfl rfl (0, 2, ⟨d_0.b, d_0.at_, d_0.err⟩) rfl rfl (by (try dsimp only); exact InM.out) (by (try dsimp only); exact EntO.out))
     replace hS := it_f h47 hS
     refine VC.skip_mt () [0, 4, 5, 6, 7] (fun _ _ h => h) hS rfl
    replace hS := it_f h43 hS
    refine Zn ?_
    refine Zn ?_
    refine VL.gy rfl rfl (q_pick_f rfl rfl) (by decide) ?_
    refine Zf ?_
    refine Zl ?_
    refine VC.keep (ρ' := [(0, ptr d_0_b 0), (4, .int .u64 v4_1), (7, i64 x7_2), (5, i64 x7_2), (6, .int .u8 (z32_3.toNat : Int)), (47, .bool false)]) [0, 4, 7, 5, 6, 47] rfl ?_
    refine VC.cond_f rfl ?_
    refine VC.skip_mt () [0, 4, 5, 6, 7] (fun _ _ h => h) hS rfl
   replace hS := it_f h36 hS
   refine VL.runs 4 [(40, some false)] (by kernel_rfl) ?_
   refine Zg ?_
   refine VL.gy rfl rfl (q_gtr rfl rfl) (by decide) ?_
   refine Zg ?_
   refine VL.split_dec 43 rfl (fun h43 => ?_) (fun h43 => ?_)
   ·
    replace hS := it_t h43 hS
    refine Zg ?_
    refine VL.gy rfl rfl (q_eql rfl rfl) (by decide) ?_
    refine VL.gy rfl rfl (q_pick_t rfl rfl) (by decide) ?_
    refine Zf ?_
    refine Zl ?_
    refine VC.keep (ρ' := [(0, ptr d_0_b 0), (4, .int .u64 v4_1), (7, i64 x7_2), (5, i64 x7_2), (6, .int .u8 (z32_3.toNat : Int)), (47, .bool (decide ((z32_3.toNat : Int) = 0)))]) [0, 4, 7, 5, 6, 47] rfl ?_
    refine VC.cond_dec rfl (fun h47 => ?_) (fun h47 => ?_)
    ·
     replace hS := it_t h47 hS
     replace hS := up2 hS hK1
     refine Zx ?_
     refine Zq (Zr ?_)
     refine Za ?_
     refine Za ?_
     refine Zl ?_
     cases hS
     exact VC.ret (fin2 (.inr rfl) rfl rfl rfl (0, 2, ⟨d_0.b, d_0.at_, d_0.err⟩) rfl rfl (by (try dsimp only); exact InM.out) (by (try dsimp only); exact EntO.out))
    replace hS := it_f h47 hS
    refine VC.skip_mt () [0, 4, 5, 6, 7] (fun _ _ h => h) hS rfl
   replace hS := it_f h43 hS
   refine Zn ?_
   refine Zn ?_
   refine VL.gy rfl rfl (q_pick_f rfl rfl) (by decide) ?_
   refine Zf ?_
   refine Zl ?_
   refine VC.keep (ρ' := [(0, ptr d_0_b 0), (4, .int .u64 v4_1), (7, i64 x7_2), (5, i64 x7_2), (6, .int .u8 (z32_3.toNat : Int)), (47, .bool false)]) [0, 4, 7, 5, 6, 47] rfl ?_
   refine VC.cond_f rfl ?_
   refine VC.skip_mt () [0, 4, 5, 6, 7] (fun _ _ h => h) hS rfl
  clear hS
  rintro _ hS
  show VC _ _ _ _ _ [(0, ptr d_0_b 0), (4, .int .u64 v4_1), (5, i64 x7_2), (6, .int .u8 (z32_3.toNat : Int)), (7, i64 x7_2)] (Mo.and Mo.tt _) (Ow.star (Blk d_0_b [d_0.b.val, i64 d_0.at_, d_0.err.val] 233) (Ow.emp))
  refine Zq (Zr ?_)
  refine Zm ?_
  refine Zm ?_
  refine VL.q (q_and rfl rfl) (by decide) ?_
  refine VL.q (q_convW Tryz.underlying5 Tryz.underlying234 rfl) (by decide) ?_
  refine Zm ?_
  obtain ⟨b53, hS⟩ := gd_s hS
  refine VL.q (q_mul rfl rfl b53) (by decide) ?_
  obtain ⟨b54, hS⟩ := gd_s hS
  refine VL.q (q_shl rfl rfl b54) (by decide) ?_
  refine VL.q (q_or rfl rfl) (by decide) ?_
  refine Za ?_
  refine Zl ?_
  refine VC.keep (ρ' := [(0, ptr d_0_b 0), (4, .int .u64 (bOr .u64 v4_1 (sHl .u64 (IntKind.wrap .u64 (bAnd .u8 (z32_3.toNat : Int) 127)) (7 * x7_2)))), (5, i64 x7_2), (6, .int .u8 (z32_3.toNat : Int)), (7, i64 x7_2)]) [0, 4, 5, 6, 7] rfl ?_
  refine Zq (Zr ?_)
  refine Zm ?_
  refine VL.q (q_lss rfl rfl) (by decide) ?_
  refine Zl ?_
  refine VC.cond_dec rfl (fun h57 => ?_) (fun h57 => ?_)
  ·
   replace hS := it_t h57 hS
   refine Zq (Zr ?_)
   refine Zm ?_
   refine VL.q (q_nilCheck rfl) (by decide) ?_
   refine VL.q (q_field gfa233_1 rfl) (by decide) ?_
   refine VL.q (q_fe gone3 rfl rfl) (by decide) ?_
   refine Zm ?_
   obtain ⟨b63, hS⟩ := gd_s hS
   refine VL.q (q_add rfl rfl b63) (by decide) ?_
   obtain ⟨b64, hS⟩ := gd_s hS
   refine VL.q (q_add rfl rfl b64) (by decide) ?_
   refine VL.q (q_nilCheck rfl) (by decide) ?_
   refine VL.q (q_field gfa233_1 rfl) (by decide) ?_
   refine VL.store (vc := [i64 (d_0.at_ + (x7_2 + 1))]) (cs' := [d_0.b.val, i64 (d_0.at_ + (x7_2 + 1)), d_0.err.val]) rfl rfl rfl gsz3 rfl rfl (Nat.le_of_ble_eq_true rfl) rfl ?_
   refine Zl ?_
   refine VC.keep (ρ' := [(4, .int .u64 (bOr .u64 v4_1 (sHl .u64 (IntKind.wrap .u64 (bAnd .u8 (z32_3.toNat : Int) 127)) (7 * x7_2))))]) [4] rfl ?_
   refine Zq (Zr ?_)
   refine Zm ?_
   refine Za ?_
   refine Za ?_
   refine Zl ?_
   replace hS := up2 hS hK1
   cases hS
   exact VC.ret (fin2 (.inr rfl) rfl rfl rfl ((bOr .u64 v4_1 (sHl .u64 (IntKind.wrap .u64 (bAnd .u8 (z32_3.toNat : Int) 127)) (7 * x7_2))), 0, ⟨d_0.b, (d_0.at_ + (x7_2 + 1)), d_0.err⟩) rfl rfl (by (try dsimp only); exact InM.out) (by (try dsimp only); exact EntO.out))
  replace hS := it_f h57 hS
  refine Zk ?_
  refine Zr ?_
  obtain ⟨b68, hS⟩ := gd_s hS
  refine VL.q (q_add rfl rfl b68) (by decide) ?_
  refine Zm ?_
  refine VL.rnd ((bOr .u64 v4_1 (sHl .u64 (IntKind.wrap .u64 (bAnd .u8 (z32_3.toNat : Int) 127)) (7 * x7_2))), (x7_2 + 1)) [0, 4, 7] (fun _ _ h => h) (go2 hS hK1) rfl
 replace hS := it_f h8 hS
 replace hS := up2 hS hK1
 refine Zx ?_
 refine Zq (Zr ?_)
 refine Za ?_
 refine Za ?_
 refine Zl ?_
 cases hS
 exact VC.ret (fin2 (.inr rfl) rfl rfl rfl (0, 2, ⟨d_0.b, d_0.at_, d_0.err⟩) rfl rfl (by (try dsimp only); exact InM.out) (by (try dsimp only); exact EntO.out))
theorem codec_Dec_fail_ct (d_0_b : Nat) (d_0 : CodecDec) (at_1 : Int) (e_2 : Int) {r : CodecDecP} (hS : Sh.codec_Dec_fail d_0.pl at_1 e_2 = some r) :
 Ct Tryz.prog 125 [ptr d_0_b 0, i64 at_1, i64 e_2] (d_0.b.ok.and d_0.err.ok) (Blk d_0_b [d_0.b.val, i64 d_0.at_, d_0.err.val] 233) (X := CodecDec) (fun x => .tuple #[]) (fun x => r = x.pl) (fun x => (x.b.ok.and x.err.ok)) (fun x => Blk d_0_b [x.b.val, i64 x.at_, x.err.val] 233) := by
 refine Ct.of Tryz.func125 rfl (by kernel_rfl) Tryz.ntmps125 (by simp) fun c => ?_
 unfold Sh.codec_Dec_fail at hS
 refine Zr ?_
 refine Zm ?_
 refine Zm ?_
 refine Zm ?_
 refine VL.q (q_mkif Tryz.underlying131 (fun _ h => by cases h) rfl) (by decide) ?_
 refine VL.q (q_build (vs := [(0, str [98, 121, 116, 101]), (1, i64 at_1), (2, (Er.no e_2).val)]) (cs := #[str [98, 121, 116, 101], i64 at_1, (Er.no e_2).val]) rfl (by kernel_rfl)) (by decide) ?_
 refine VL.box (cs := [str [98, 121, 116, 101], i64 at_1, (Er.no e_2).val]) rfl rfl (by decide) fun b11_1 => ?_
 refine VL.shutB b11_1 ?_
 refine VL.q (q_mkif Tryz.underlying190 (fun _ h => by cases h) rfl) (by decide) ?_
 refine VL.q (q_nilCheck rfl) (by decide) ?_
 refine VL.q (q_field gfa233_2 rfl) (by decide) ?_
 refine VL.store (vc := [(Er.fault b11_1 [98, 121, 116, 101] at_1 (Er.no e_2)).val]) (cs' := [d_0.b.val, i64 d_0.at_, (Er.fault b11_1 [98, 121, 116, 101] at_1 (Er.no e_2)).val]) rfl rfl rfl gsz26 rfl rfl (Nat.le_of_ble_eq_true rfl) rfl ?_
 cases hS
 exact VL.nil (fin0 (.inl rfl) rfl ⟨d_0.b, d_0.at_, (Er.fault b11_1 [98, 121, 116, 101] at_1 (Er.no e_2))⟩ rfl rfl (by (try dsimp only); exact InM.out) (by (try dsimp only); exact EntO.out))
theorem codec_Dec_Int_ct (d_0_b : Nat) (d_0 : CodecDec) {r : Int × CodecDecP} (hS : Sh.codec_Dec_Int d_0.pl = some r) :
 Ct Tryz.prog 50 [ptr d_0_b 0] (d_0.b.ok.and d_0.err.ok) (Blk d_0_b [d_0.b.val, i64 d_0.at_, d_0.err.val] 233) (X := Int × CodecDec) (fun x => i64 x.1) (fun x => r = (x.1, x.2.pl)) (fun x => (x.2.b.ok.and x.2.err.ok)) (fun x => Blk d_0_b [x.2.b.val, i64 x.2.at_, x.2.err.val] 233) := by
 refine Ct.of Tryz.func50 rfl (by kernel_rfl) Tryz.ntmps50 (by simp) fun c => ?_
 unfold Sh.codec_Dec_Int at hS
 refine Zq (Zr ?_)
 refine Za ?_
 refine Zl ?_
 refine Zq (Zq (Zr ?_))
 refine Zm ?_
 refine VL.q (q_nilCheck rfl) (by decide) ?_
 refine VL.q (q_field gfa233_2 rfl) (by decide) ?_
 refine VL.q (q_fe gone26 rfl rfl) (by decide) ?_
 refine VL.q (q_erne Tryz.underlying26 rfl) (by decide) ?_
 refine Zl ?_
 refine VC.cond_ndec rfl (fun h10 => ?_) (fun h10 => ?_)
 ·
  replace hS := it_f h10 hS
  refine Zq (Zr ?_)
  refine Za ?_
  refine Zl ?_
  cases hS
  exact VC.ret (fin1 (.inr rfl) rfl rfl (0, ⟨d_0.b, d_0.at_, d_0.err⟩) rfl rfl (by (try dsimp only); exact InM.out) (by (try dsimp only); exact EntO.out))
 replace hS := it_t h10 hS
 refine Zk ?_
 refine Zq (Zr ?_)
 refine Zm ?_
 refine VL.q (q_nilCheck rfl) (by decide) ?_
 refine VL.q (q_field gfa233_1 rfl) (by decide) ?_
 refine VL.q (q_fe gone3 rfl rfl) (by decide) ?_
 refine Za ?_
 refine Zl ?_
 refine VC.keep (ρ' := [(0, ptr d_0_b 0), (3, i64 d_0.at_)]) [0, 3] rfl ?_
 refine Zq (Zr ?_)
 refine Zm ?_
 obtain ⟨y17_1, ey17_1, hS⟩ := bd_s hS
 refine VL.callO (codec_Dec_uint_ct d_0_b d_0 ey17_1) rfl (by decide) ?_
 rintro ⟨q17_1_0, q17_1_1, q17_1_2⟩ rfl
 try dsimp only
 refine Zm ?_
 refine VL.q (q_extract rfl rfl) (by decide) ?_
 refine VL.q (q_extract rfl rfl) (by decide) ?_
 refine Za ?_
 refine Za ?_
 refine Zl ?_
 refine Zq (Zq (Zr ?_))
 refine Zm ?_
 refine VL.q (q_neq rfl rfl) (by decide) ?_
 refine Zl ?_
 refine VC.cond_ndec rfl (fun h21 => ?_) (fun h21 => ?_)
 ·
  replace hS := it_f h21 hS
  refine Zq (Zr ?_)
  refine Zm ?_
  refine Zm ?_
  refine Zm ?_
  obtain ⟨y25_2, ey25_2, hS⟩ := bd_s hS
  refine VL.callO (codec_Dec_fail_ct d_0_b q17_1_2 d_0.at_ q17_1_1 ey25_2) rfl (by decide) ?_
  rintro q25_2_0 rfl
  try dsimp only
  refine Zl ?_
  refine VC.keep (ρ' := []) [] rfl ?_
  refine Zq (Zr ?_)
  refine Za ?_
  refine Zl ?_
  cases hS
  exact VC.ret (fin1 (.inr rfl) rfl rfl (0, ⟨q25_2_0.b, q25_2_0.at_, q25_2_0.err⟩) rfl rfl (by (try dsimp only); exact InM.out) (by (try dsimp only); exact EntO.out))
 replace hS := it_t h21 hS
 refine Zk ?_
 refine VC.keep (ρ' := [(4, .int .u64 q17_1_0)]) [4] rfl ?_
 refine Zq (Zr ?_)
 refine Zm ?_
 refine VL.q (q_shr rfl rfl (by decide)) (by decide) ?_
 refine VL.q (q_convW Tryz.underlying234 Tryz.underlying2 rfl) (by decide) ?_
 refine Zm ?_
 refine VL.q (q_and rfl rfl) (by decide) ?_
 refine VL.q (q_convW Tryz.underlying234 Tryz.underlying2 rfl) (by decide) ?_
 refine VL.q (q_neg rfl) (by decide) ?_
 refine VL.q (q_xor rfl rfl) (by decide) ?_
 refine Za ?_
 refine Zl ?_
 cases hS
 exact VC.ret (fin1 (.inr rfl) rfl rfl ((bXor .i64 (IntKind.wrap .i64 (sHr .u64 q17_1_0 1)) (IntKind.wrap .i64 (0 - (IntKind.wrap .i64 (bAnd .u64 q17_1_0 1))))), ⟨q17_1_2.b, q17_1_2.at_, q17_1_2.err⟩) rfl rfl (by (try dsimp only); exact InM.out) (by (try dsimp only); exact EntO.out))
theorem codec_Dec_Text_ct (d_0_b : Nat) (d_0 : CodecDec) {r : Str × CodecDecP} (hS : Sh.codec_Dec_Text d_0.pl = some r) :
 Ct Tryz.prog 52 [ptr d_0_b 0] (d_0.b.ok.and d_0.err.ok) (Blk d_0_b [d_0.b.val, i64 d_0.at_, d_0.err.val] 233) (X := Str × CodecDec) (fun x => str x.1) (fun x => r = (x.1, x.2.pl)) (fun x => (x.2.b.ok.and x.2.err.ok)) (fun x => Blk d_0_b [x.2.b.val, i64 x.2.at_, x.2.err.val] 233) := by
 refine Ct.of Tryz.func52 rfl (by kernel_rfl) Tryz.ntmps52 (by simp) fun c => ?_
 unfold Sh.codec_Dec_Text at hS
 refine Zq (Zr ?_)
 refine Za ?_
 refine Zl ?_
 refine Zq (Zr ?_)
 refine Zm ?_
 refine VL.q (q_nilCheck rfl) (by decide) ?_
 refine VL.q (q_field gfa233_1 rfl) (by decide) ?_
 refine VL.q (q_fe gone3 rfl rfl) (by decide) ?_
 refine Za ?_
 refine Zl ?_
 refine Zq (Zr ?_)
 refine Zm ?_
 obtain ⟨y11_1, ey11_1, hS⟩ := bd_s hS
 refine VL.callO (codec_Dec_Int_ct d_0_b d_0 ey11_1) rfl (by decide) ?_
 rintro ⟨q11_1_0, q11_1_1⟩ rfl
 try dsimp only
 refine Za ?_
 refine Zl ?_
 refine Zq (Zb (Zq (Zr ?_)))
 refine Zm ?_
 refine VL.q (q_nilCheck rfl) (by decide) ?_
 refine VL.q (q_field gfa233_2 rfl) (by decide) ?_
 refine VL.q (q_fe gone26 rfl rfl) (by decide) ?_
 refine VL.q (q_erne Tryz.underlying26 rfl) (by decide) ?_
 refine Za ?_
 refine Zl ?_
 refine VC.keep (ρ' := [(0, ptr d_0_b 0), (3, i64 d_0.at_), (4, i64 q11_1_0), (12, .bool (!decide (q11_1_1.err.pl.isNil = true)))]) [0, 3, 4, 12] rfl ?_
 refine VC.cond_ndec rfl (fun h12 => ?_) (fun h12 => ?_)
 ·
  replace hS := it_f h12 hS
  refine Zq (Zr ?_)
  refine Za ?_
  refine Zl ?_
  cases hS
  exact VC.ret (fin1 (.inr rfl) rfl rfl ([], ⟨q11_1_1.b, q11_1_1.at_, q11_1_1.err⟩) rfl rfl (by (try dsimp only); exact InM.out) (by (try dsimp only); exact EntO.out))
 replace hS := it_t h12 hS
 refine Zq (Zr ?_)
 refine Zm ?_
 refine VL.q (q_lss rfl rfl) (by decide) ?_
 refine Za ?_
 refine Zl ?_
 refine VC.cond_dec rfl (fun h18 => ?_) (fun h18 => ?_)
 ·
  replace hS := it_t h18 hS
  refine Zq (Zr ?_)
  refine Zm ?_
  refine Zm ?_
  obtain ⟨y23_2, ey23_2, hS⟩ := bd_s hS
  refine VL.callO (codec_Dec_fail_ct d_0_b q11_1_1 d_0.at_ 2 ey23_2) rfl (by decide) ?_
  rintro q23_2_0 rfl
  try dsimp only
  refine Zl ?_
  refine Zq (Zr ?_)
  refine Za ?_
  refine Zl ?_
  refine VC.keep (ρ' := [(2, str [])]) [2] rfl ?_
  cases hS
  exact VC.ret (fin1 (.inr rfl) rfl rfl ([], ⟨q23_2_0.b, q23_2_0.at_, q23_2_0.err⟩) rfl rfl (by (try dsimp only); exact InM.out) (by (try dsimp only); exact EntO.out))
 replace hS := it_f h18 hS
 refine Zq ?_
 refine VC.draw ((List.range 13).map fun k => (k, true)) mixed (by kernel_rfl) (by kernel_rfl) (by kernel_rfl) ?_
 refine VD.q rfl (q_move rfl) (by decide) ?_
 refine VD.q rfl (q_move rfl) (by decide) ?_
 refine VD.q rfl (q_nilCheck rfl) (by decide) ?_
 refine VD.q rfl (q_field gfa233_0 rfl) (by decide) ?_
 refine VD.q rfl (q_fe gone22 rfl rfl) (by decide) ?_
 refine VD.q rfl (q_ln (s := q11_1_1.b) Tryz.underlying22 rfl) (by decide) ?_
 refine VD.q rfl (q_move rfl) (by decide) ?_
 refine VD.q rfl (q_nilCheck rfl) (by decide) ?_
 refine VD.q rfl (q_field gfa233_1 rfl) (by decide) ?_
 refine VD.q rfl (q_fe gone3 rfl rfl) (by decide) ?_
 obtain ⟨b35, hS⟩ := gd_s hS
 refine VD.q rfl (q_sub rfl rfl b35) (by decide) ?_
 refine VD.q rfl (q_gtr rfl rfl) (by decide) ?_
 refine VD.q rfl (q_assign rfl) (by decide) ?_
 refine VD.to (fun _ _ h => h) ?_
 refine VC.keep (ρ' := [(0, ptr d_0_b 0), (3, i64 d_0.at_), (4, i64 q11_1_0), (24, .bool (decide (((q11_1_1.b.l.length : Int) - q11_1_1.at_) < q11_1_0)))]) [0, 3, 4, 24] rfl ?_
 refine VC.cond_dec rfl (fun h24 => ?_) (fun h24 => ?_)
 ·
  replace hS := it_t h24 hS
  refine Zq (Zr ?_)
  refine Zm ?_
  refine Zm ?_
  obtain ⟨y39_3, ey39_3, hS⟩ := bd_s hS
  refine VL.callO (codec_Dec_fail_ct d_0_b q11_1_1 d_0.at_ 3 ey39_3) rfl (by decide) ?_
  rintro q39_3_0 rfl
  try dsimp only
  refine Zl ?_
  refine Zq (Zr ?_)
  refine Za ?_
  refine Zl ?_
  cases hS
  exact VC.ret (fin1 (.inr rfl) rfl rfl ([], ⟨q39_3_0.b, q39_3_0.at_, q39_3_0.err⟩) rfl rfl (by (try dsimp only); exact InM.out) (by (try dsimp only); exact EntO.out))
 replace hS := it_f h24 hS
 refine Zk ?_
 refine Zq ?_
 refine VC.draw ((List.range 17).map fun k => (k, true)) mixed (by kernel_rfl) (by kernel_rfl) (by kernel_rfl) ?_
 refine VD.q rfl (q_move rfl) (by decide) ?_
 refine VD.q rfl (q_nilCheck rfl) (by decide) ?_
 refine VD.q rfl (q_field gfa233_0 rfl) (by decide) ?_
 refine VD.q rfl (q_fe gone22 rfl rfl) (by decide) ?_
 refine VD.q rfl (q_move rfl) (by decide) ?_
 refine VD.q rfl (q_nilCheck rfl) (by decide) ?_
 refine VD.q rfl (q_field gfa233_1 rfl) (by decide) ?_
 refine VD.q rfl (q_fe gone3 rfl rfl) (by decide) ?_
 refine VD.q rfl (q_move rfl) (by decide) ?_
 refine VD.q rfl (q_nilCheck rfl) (by decide) ?_
 refine VD.q rfl (q_field gfa233_1 rfl) (by decide) ?_
 refine VD.q rfl (q_fe gone3 rfl rfl) (by decide) ?_
 refine VD.q rfl (q_move rfl) (by decide) ?_
 obtain ⟨b53, hS⟩ := gd_s hS
 refine VD.q rfl (q_add rfl rfl b53) (by decide) ?_
 obtain ⟨b54, hS⟩ := gd_s hS
 refine VD.smidK rfl Tryz.underlying22 gsz5 rfl rfl rfl b54.1 b54.2.1 (b54.2.2) (by decide) fun s54_4 hs54_4 Qs54_4 => ?_
 replace hS := lt_to hs54_4 hS
 refine VD.q rfl (q_b2s (s := s54_4) Tryz.underlying22 Tryz.underlying5 Tryz.underlying9 rfl) (by decide) ?_
 refine VD.q rfl (q_assign rfl) (by decide) ?_
 refine VD.to (fun _ _ h => h) ?_
 refine VC.keep (ρ' := [(0, ptr d_0_b 0), (4, i64 q11_1_0), (5, str s54_4.l)]) [0, 4, 5] rfl ?_
 refine Zq (Zr ?_)
 refine Zm ?_
 refine VL.q (q_nilCheck rfl) (by decide) ?_
 refine VL.q (q_field gfa233_1 rfl) (by decide) ?_
 refine VL.q (q_fe gone3 rfl rfl) (by decide) ?_
 refine Zm ?_
 obtain ⟨b61, hS⟩ := gd_s hS
 refine VL.q (q_add rfl rfl b61) (by decide) ?_
 refine VL.q (q_nilCheck rfl) (by decide) ?_
 refine VL.q (q_field gfa233_1 rfl) (by decide) ?_
 refine VL.store (vc := [i64 (q11_1_1.at_ + q11_1_0)]) (cs' := [q11_1_1.b.val, i64 (q11_1_1.at_ + q11_1_0), q11_1_1.err.val]) rfl rfl rfl gsz3 rfl rfl (Nat.le_of_ble_eq_true rfl) rfl ?_
 refine Zl ?_
 refine VC.keep (ρ' := [(5, str s54_4.l)]) [5] rfl ?_
 refine Zq (Zr ?_)
 refine Zm ?_
 refine Za ?_
 refine Zl ?_
 cases hS
 exact VC.ret (fin1 (.inr rfl) rfl rfl (s54_4.l, ⟨q11_1_1.b, (q11_1_1.at_ + q11_1_0), q11_1_1.err⟩) rfl rfl (by (try dsimp only); exact InM.out) (by (try dsimp only); exact EntO.out))
theorem bytes_Equal_ct (a_0 : Sv UInt8) (b_1 : Sv UInt8) {r : Bool} (hS : Sh.bytes_Equal a_0.l b_1.l = some r) :
 Ct Tryz.prog 120 [a_0.val, b_1.val] (a_0.ok.and b_1.ok) (Ow.emp) (X := Unit) (fun _ => .bool r) (fun _ => True) (fun _ => Mo.tt) (fun _ => Ow.emp) := by
 refine Ct.of Tryz.func120 rfl (by kernel_rfl) Tryz.ntmps120 (by simp) fun c => ?_
 unfold Sh.bytes_Equal at hS
 refine Zq (Zr ?_)
 refine Za ?_
 refine Zl ?_
 refine Zq (Zr ?_)
 refine Zm ?_
 refine VL.q (q_b2s (s := a_0) Tryz.underlying22 Tryz.underlying5 Tryz.underlying9 rfl) (by decide) ?_
 refine Zm ?_
 refine VL.q (q_b2s (s := b_1) Tryz.underlying22 Tryz.underlying5 Tryz.underlying9 rfl) (by decide) ?_
 refine Zs ?_
 refine Za ?_
 refine Zl ?_
 cases hS
 exact Ze
theorem seal_Open_ct (b_0 : Sv UInt8) {r : List UInt8 × Err} (hS : Sh.seal_Open b_0.l = some r) :
 Ct Tryz.prog 126 [b_0.val] b_0.ok (Ow.emp) (X := Sv UInt8 × Er) (fun x => .tuple #[x.1.val, x.2.val]) (fun x => r = (x.1.l, x.2.pl)) (fun x => (x.1.ok.and x.2.ok)) (fun x => Ow.emp) := by
 refine Ct.of Tryz.func126 rfl (by kernel_rfl) Tryz.ntmps126 (by simp) fun c => ?_
 unfold Sh.seal_Open at hS
 refine Zq (Zr ?_)
 refine Za ?_
 refine Za ?_
 refine Zl ?_
 refine Zq (Zq (Zr ?_))
 refine Zm ?_
 refine VL.q (q_ln (s := b_0) Tryz.underlying22 rfl) (by decide) ?_
 refine VL.q (q_lss rfl rfl) (by decide) ?_
 refine Zl ?_
 refine VC.cond_dec rfl (fun h7 => ?_) (fun h7 => ?_)
 ·
  replace hS := it_t h7 hS
  refine Zq (Zr ?_)
  refine Zm ?_
  refine VL.q (q_ln (s := b_0) Tryz.underlying22 rfl) (by decide) ?_
  refine VL.q (q_mkif Tryz.underlying131 (fun _ h => by cases h) rfl) (by decide) ?_
  refine VL.q (q_build (vs := [(0, str [115, 117, 109]), (1, i64 (b_0.l.length : Int)), (2, (Er.no 3).val)]) (cs := #[str [115, 117, 109], i64 (b_0.l.length : Int), (Er.no 3).val]) rfl (by kernel_rfl)) (by decide) ?_
  refine VL.box (cs := [str [115, 117, 109], i64 (b_0.l.length : Int), (Er.no 3).val]) rfl rfl (by decide) fun b12_1 => ?_
  refine VL.shutB b12_1 ?_
  refine VL.q (q_mkif Tryz.underlying190 (fun _ h => by cases h) rfl) (by decide) ?_
  refine Za ?_
  refine Za ?_
  refine Zl ?_
  refine VC.keep (ρ' := [(2, .slice none 0 0), (3, (Er.fault b12_1 [115, 117, 109] (b_0.l.length : Int) (Er.no 3)).val)]) [2, 3] rfl ?_
  cases hS
  exact VC.ret (fin2 (.inr rfl) rfl rfl rfl (⟨none, 0, []⟩, (Er.fault b12_1 [115, 117, 109] (b_0.l.length : Int) (Er.no 3))) rfl rfl (by (try dsimp only); exact InM.out) (fun _ _ => trivial))
 replace hS := it_f h7 hS
 refine Zk ?_
 refine Zq (Zr ?_)
 refine Zm ?_
 refine Zm ?_
 refine VL.q (q_ln (s := b_0) Tryz.underlying22 rfl) (by decide) ?_
 obtain ⟨b17, hS⟩ := gd_s hS
 refine VL.q (q_sub rfl rfl b17) (by decide) ?_
 obtain ⟨b18, hS⟩ := gd_s hS
 refine VL.sto Tryz.underlying22 gsz5 rfl rfl b18.1 (b18.2) (by decide) fun s18_2 hs18_2 => ?_
 replace hS := lt_to hs18_2 hS
 refine Za ?_
 refine Zl ?_
 refine VC.keep (ρ' := [(0, b_0.val), (4, s18_2.val)]) [0, 4] rfl ?_
 refine Zq (Zq (Zr ?_))
 refine Zm ?_
 obtain ⟨y20_4, ey20_4, hS⟩ := bd_s hS
 refine VL.callO (seal_Put_ct s18_2 ey20_4) rfl (by decide) ?_
 rintro q20_4_0 rfl
 try dsimp only
 refine Zm ?_
 obtain ⟨y22_5, ey22_5, hS⟩ := bd_s hS
 refine VL.q (q_callR (bytes_Equal_ct q20_4_0 b_0 ey22_5) rfl (fun _ _ => rfl)) (by decide) ?_
 refine VL.q (q_not rfl) (by decide) ?_
 refine Zl ?_
 refine VC.cond rfl (fun h23 => ?_) (fun h23 => ?_)
 ·
  replace hS := it_t h23 hS
  refine Zq (Zr ?_)
  refine Zm ?_
  refine VL.q (q_ln (s := b_0) Tryz.underlying22 rfl) (by decide) ?_
  refine VL.q (q_mkif Tryz.underlying131 (fun _ h => by cases h) rfl) (by decide) ?_
  refine VL.q (q_build (vs := [(0, str [115, 117, 109]), (1, i64 (b_0.l.length : Int)), (2, (Er.no 12).val)]) (cs := #[str [115, 117, 109], i64 (b_0.l.length : Int), (Er.no 12).val]) rfl (by kernel_rfl)) (by decide) ?_
  refine VL.box (cs := [str [115, 117, 109], i64 (b_0.l.length : Int), (Er.no 12).val]) rfl rfl (by decide) fun b28_6 => ?_
  refine VL.shutB b28_6 ?_
  refine VL.q (q_mkif Tryz.underlying190 (fun _ h => by cases h) rfl) (by decide) ?_
  refine Za ?_
  refine Za ?_
  refine Zl ?_
  refine VC.keep (ρ' := [(2, .slice none 0 0), (3, (Er.fault b28_6 [115, 117, 109] (b_0.l.length : Int) (Er.no 12)).val)]) [2, 3] rfl ?_
  cases hS
  exact VC.ret (fin2 (.inr rfl) rfl rfl rfl (⟨none, 0, []⟩, (Er.fault b28_6 [115, 117, 109] (b_0.l.length : Int) (Er.no 12))) rfl rfl (by (try dsimp only); exact InM.out) (fun _ _ => trivial))
 replace hS := it_b h23 hS
 refine Zk ?_
 refine Zq (Zr ?_)
 refine Zm ?_
 obtain ⟨y31_7, ey31_7, hS⟩ := bd_s hS
 refine VL.callO (slices_Clone_byte_byte_ct s18_2 ey31_7) rfl (by decide) ?_
 rintro q31_7_0 rfl
 try dsimp only
 refine VL.shut q31_7_0 5 (fun _ _ _ _ => trivial) ?_
 obtain ⟨y32_8, ey32_8, hS⟩ := bd_s hS
 refine VL.callF (slices_Clip_byte_byte_ct q31_7_0 ey32_8) rfl (by decide) ?_
 rintro q32_8_0 rfl
 try dsimp only
 refine Za ?_
 refine Za ?_
 refine Zl ?_
 refine VC.keep (ρ' := [(2, q32_8_0.val), (3, .nilIface)]) [2, 3] rfl ?_
 cases hS
 exact VC.ret (fin2 (.inr rfl) rfl rfl rfl (q32_8_0, .nil) rfl rfl (by (try dsimp only); exact InM.out) (fun _ _ => trivial))
theorem object_reader_many_ct (r_0_b : Nat) (r_0 : ObjectReader) (r_0_dec_b : Nat) (r_0_dec : CodecDec) {r : Int × CodecDecP × ObjectReader} (hS : Sh.object_reader_many r_0 r_0_dec.pl = some r) :
 Ct Tryz.prog 239 [ptr r_0_b 0] (r_0_dec.b.ok.and r_0_dec.err.ok) (Ow.star (Blk r_0_dec_b [r_0_dec.b.val, i64 r_0_dec.at_, r_0_dec.err.val] 233) (Blk r_0_b [ptr r_0_dec_b 0, .bool r_0.bad] 242)) (X := Int × CodecDec × ObjectReader) (fun x => i64 x.1) (fun x => r = (x.1, x.2.1.pl, x.2.2)) (fun x => (x.2.1.b.ok.and x.2.1.err.ok)) (fun x => Ow.star (Blk r_0_dec_b [x.2.1.b.val, i64 x.2.1.at_, x.2.1.err.val] 233) (Blk r_0_b [ptr r_0_dec_b 0, .bool x.2.2.bad] 242)) := by
 refine Ct.of Tryz.func239 rfl (by kernel_rfl) Tryz.ntmps239 (by simp) fun c => ?_
 unfold Sh.object_reader_many at hS
 refine Zq (Zr ?_)
 refine Za ?_
 refine Zl ?_
 refine Zq (Zr ?_)
 refine Zm ?_
 refine VL.q (q_nilCheck rfl) (by decide) ?_
 refine VL.q (q_field gfa242_0 rfl) (by decide) ?_
 refine VL.q (q_fe gone129 rfl rfl) (by decide) ?_
 obtain ⟨y8_1, ey8_1, hS⟩ := bd_s hS
 refine VL.callO (codec_Dec_Int_ct r_0_dec_b r_0_dec ey8_1) rfl (by decide) ?_
 rintro ⟨q8_1_0, q8_1_1⟩ rfl
 try dsimp only
 refine Za ?_
 refine Zl ?_
 refine Zq ?_
 refine VC.cutJ (S := Bool) (fun (x14_2 : Bool) => x14_2) (fun (x14_2 : Bool) => [(0, ptr r_0_b 0), (3, i64 q8_1_0), (14, .bool x14_2)]) (fun (x14_2 : Bool) => Mo.tt) (fun (x14_2 : Bool) => Ow.star (Blk r_0_dec_b [q8_1_1.b.val, i64 q8_1_1.at_, q8_1_1.err.val] 233) (Ow.star (Blk r_0_b [ptr r_0_dec_b 0, .bool r_0.bad] 242) (Ow.emp))) hS ?_ ?_
 ·
  clear hS
  intro k3 hS
  refine Zr ?_
  refine Zm ?_
  refine VL.q (q_lss rfl rfl) (by decide) ?_
  refine Zm ?_
  refine VL.split_dec 11 rfl (fun h11 => ?_) (fun h11 => ?_)
  ·
   replace hS := it_t h11 hS
   refine VL.runs 3 [(14, some true)] (by kernel_rfl) ?_
   refine VL.mt true [0, 3, 14] (fun _ _ h => h) hS rfl
  replace hS := it_f h11 hS
  refine Zg ?_
  refine VL.gy rfl rfl (q_gtr rfl rfl) (by decide) ?_
  refine Zf ?_
  refine VL.mt (decide (64 < q8_1_0)) [0, 3, 14] (fun _ _ h => h) hS rfl
 clear hS
 rintro x14_2 hS
 show VC _ _ _ _ _ [(0, ptr r_0_b 0), (3, i64 q8_1_0), (14, .bool x14_2)] (Mo.and Mo.tt _) (Ow.star (Blk r_0_dec_b [q8_1_1.b.val, i64 q8_1_1.at_, q8_1_1.err.val] 233) (Ow.star (Blk r_0_b [ptr r_0_dec_b 0, .bool r_0.bad] 242) (Ow.emp)))
 refine VC.cond rfl (fun h14 => ?_) (fun h14 => ?_)
 ·
  replace hS := it_t h14 hS
  refine Zq (Zr ?_)
  refine Zm ?_
  refine VL.q (q_nilCheck rfl) (by decide) ?_
  refine VL.q (q_field gfa242_1 rfl) (by decide) ?_
  refine VL.store (vc := [.bool true]) (cs' := [ptr r_0_dec_b 0, .bool true]) rfl rfl rfl gsz4 rfl rfl (Nat.le_of_ble_eq_true rfl) rfl ?_
  refine Zl ?_
  refine Zq (Zr ?_)
  refine Za ?_
  refine Zl ?_
  cases hS
  exact VC.ret (fin1 (.inr rfl) rfl rfl (0, ⟨q8_1_1.b, q8_1_1.at_, q8_1_1.err⟩, ⟨true⟩) rfl rfl (by (try dsimp only); exact InM.out) (by (try dsimp only); exact EntO.out))
 replace hS := it_b h14 hS
 refine Zk ?_
 refine Zq (Zr ?_)
 refine Zm ?_
 refine Za ?_
 refine Zl ?_
 cases hS
 exact VC.ret (fin1 (.inr rfl) rfl rfl (q8_1_0, ⟨q8_1_1.b, q8_1_1.at_, q8_1_1.err⟩, ⟨r_0.bad⟩) rfl rfl (by (try dsimp only); exact InM.out) (by (try dsimp only); exact EntO.out))
theorem object_reader_items_ct (r_0_b : Nat) (r_0 : ObjectReader) (r_0_dec_b : Nat) (r_0_dec : CodecDec) {r : List ObjectItem × CodecDecP × ObjectReader} (hS : Sh.object_reader_items r_0 r_0_dec.pl = some r) :
 Ct Tryz.prog 194 [ptr r_0_b 0] (r_0_dec.b.ok.and r_0_dec.err.ok) (Ow.star (Blk r_0_dec_b [r_0_dec.b.val, i64 r_0_dec.at_, r_0_dec.err.val] 233) (Blk r_0_b [ptr r_0_dec_b 0, .bool r_0.bad] 242)) (X := Sv ObjectItem × CodecDec × ObjectReader) (fun x => x.1.val) (fun x => r = (x.1.l, x.2.1.pl, x.2.2)) (fun x => (x.1.ok.and (x.2.1.b.ok.and x.2.1.err.ok))) (fun x => Ow.star (Blk r_0_dec_b [x.2.1.b.val, i64 x.2.1.at_, x.2.1.err.val] 233) (Blk r_0_b [ptr r_0_dec_b 0, .bool x.2.2.bad] 242)) := by
 refine Ct.of Tryz.func194 rfl (by kernel_rfl) Tryz.ntmps194 (by simp) fun c => ?_
 unfold Sh.object_reader_items at hS
 refine Zq (Zr ?_)
 refine Za ?_
 refine Zl ?_
 refine Zq (Zr ?_)
 refine Za ?_
 refine Zl ?_
 refine Zq (Zq (Zr ?_))
 refine Zm ?_
 obtain ⟨y5_1, ey5_1, hS⟩ := bd_s hS
 refine VL.callO (object_reader_many_ct r_0_b r_0 r_0_dec_b r_0_dec ey5_1) rfl (by decide) ?_
 rintro ⟨q5_1_0, q5_1_1, q5_1_2⟩ rfl
 try dsimp only
 refine Zm ?_
 refine Zl ?_
 refine Zb ?_
 refine VC.nilO (⟨none, 0, []⟩ : Sv ObjectItem) 124 ⟨rfl, rfl⟩ ?_
 refine VC.iter (S := Sv ObjectItem × Int × Sv UInt8 × Int × Er) (fun sg => (sg.1.l, sg.2.1, sg.2.2.1.l, sg.2.2.2.1, sg.2.2.2.2.pl)) (fun sg => [(0, ptr r_0_b 0), (3, sg.1.val), (5, i64 q5_1_0), (6, i64 sg.2.1)]) (fun sg => (sg.2.2.1.ok.and sg.2.2.2.2.ok)) (fun sg => Ow.star (Blk r_0_b [ptr r_0_dec_b 0, .bool q5_1_2.bad] 242) (Ow.star (Blk r_0_dec_b [sg.2.2.1.val, i64 sg.2.2.2.1, sg.2.2.2.2.val] 233) (Ow.star (Sv.own sg.1 124) (Ow.emp)))) (⟨none, 0, []⟩, 0, q5_1_1.b, q5_1_1.at_, q5_1_1.err) [0, 3, 5, 6] hS rfl ?_
 clear hS
 rintro ⟨out3_2, x6_3, c0_4, c1_5, c2_6⟩ m1 y1 hS hK1
 show VC _ _ _ _ _ [(0, ptr r_0_b 0), (3, out3_2.val), (5, i64 q5_1_0), (6, i64 x6_3)] (Mo.and (c0_4.ok.and c2_6.ok) _) (Ow.star (Blk r_0_b [ptr r_0_dec_b 0, .bool q5_1_2.bad] 242) (Ow.star (Blk r_0_dec_b [c0_4.val, i64 c1_5, c2_6.val] 233) (Ow.star (Sv.own out3_2 124) (Ow.emp))))
 refine Zq (Zr ?_)
 refine VL.q (q_lss rfl rfl) (by decide) ?_
 refine Zl ?_
 refine Zq ?_
 refine VC.cond_dec rfl (fun h7 => ?_) (fun h7 => ?_)
 ·
  replace hS := it_t h7 hS
  refine Zk ?_
  refine Zq (Zb ?_)
  refine VC.draw [(0, true), (1, true), (2, true), (3, true), (4, true), (6, true), (7, true), (8, true), (9, true), (11, true), (12, true), (13, true), (14, true), (5, false), (10, false), (15, false), (16, true), (17, false), (18, false), (19, true)] mixed (by kernel_rfl) (by kernel_rfl) (by kernel_rfl) ?_
  refine VD.q rfl (q_move rfl) (by decide) ?_
  refine VD.q rfl (q_move rfl) (by decide) ?_
  refine VD.q rfl (q_nilCheck rfl) (by decide) ?_
  refine VD.q rfl (q_field gfa242_0 rfl) (by decide) ?_
  refine VD.q rfl (q_fe gone129 rfl rfl) (by decide) ?_
  refine VD.q rfl (q_move rfl) (by decide) ?_
  refine VD.q rfl (q_nilCheck rfl) (by decide) ?_
  refine VD.q rfl (q_field gfa242_0 rfl) (by decide) ?_
  refine VD.q rfl (q_fe gone129 rfl rfl) (by decide) ?_
  refine VD.q rfl (q_move rfl) (by decide) ?_
  refine VD.q rfl (q_nilCheck rfl) (by decide) ?_
  refine VD.q rfl (q_field gfa242_0 rfl) (by decide) ?_
  refine VD.q rfl (q_fe gone129 rfl rfl) (by decide) ?_
  refine VD.one rfl ?_
  obtain ⟨y13_7, ey13_7, hS⟩ := bd_s hS
  refine VL.callO (codec_Dec_Text_ct r_0_dec_b (⟨c0_4, c1_5, c2_6⟩ : CodecDec) ey13_7) rfl (by decide) ?_
  rintro ⟨q13_7_0, q13_7_1⟩ rfl
  try dsimp only
  refine VL.back (D' := [(14, ptr r_0_dec_b 0), (13, ptr r_0_b 0), (12, ptr r_0_b 0), (9, ptr r_0_dec_b 0), (8, ptr r_0_b 0), (7, ptr r_0_b 0)]) (by kernel_rfl) (Pend.cons rfl (q_fe gone129 rfl rfl) (Pend.cons rfl (q_field gfa242_0 rfl) (Pend.cons rfl (q_nilCheck rfl) (Pend.cons rfl (q_fe gone129 rfl rfl) (Pend.cons rfl (q_field gfa242_0 rfl) (Pend.cons rfl (q_nilCheck rfl) (Pend.nil))))))) ?_
  refine VD.one rfl ?_
  obtain ⟨y18_8, ey18_8, hS⟩ := bd_s hS
  refine VL.callO (codec_Dec_Int_ct r_0_dec_b q13_7_1 ey18_8) rfl (by decide) ?_
  rintro ⟨q18_8_0, q18_8_1⟩ rfl
  try dsimp only
  refine VL.back (D' := [(14, ptr r_0_dec_b 0), (13, ptr r_0_b 0), (12, ptr r_0_b 0)]) (by kernel_rfl) (Pend.cons rfl (q_fe gone129 rfl rfl) (Pend.cons rfl (q_field gfa242_0 rfl) (Pend.cons rfl (q_nilCheck rfl) (Pend.nil)))) ?_
  refine VD.one rfl ?_
  obtain ⟨y23_9, ey23_9, hS⟩ := bd_s hS
  refine VL.callO (codec_Dec_Int_ct r_0_dec_b q18_8_1 ey23_9) rfl (by decide) ?_
  rintro ⟨q23_9_0, q23_9_1⟩ rfl
  try dsimp only
  refine VL.back (D' := []) (by kernel_rfl) (Pend.nil) ?_
  refine VD.q rfl (q_build (vs := [(0, str q13_7_0), (1, i64 q18_8_0), (2, i64 q23_9_0)]) (cs := #[str q13_7_0, i64 q18_8_0, i64 q23_9_0]) rfl (by kernel_rfl)) (by decide) ?_
  refine VD.one rfl ?_
  refine VL.lit (α := ObjectItem) (xs := [.tmp 24]) (vs := [.agg #[str q13_7_0, i64 q18_8_0, i64 q23_9_0]]) [⟨q13_7_0, q18_8_0, q23_9_0⟩] Tryz.underlying31 glit124 (by decide) rfl rfl rfl rfl (by decide) (fun _ _ _ _ => trivial) (by decide) (fun s25_10 hs25_10 => ?_) (by decide)
  replace hS := lt_to hs25_10 hS
  refine VL.back (D' := []) (by kernel_rfl) (Pend.nil) ?_
  refine VD.one rfl ?_
  obtain ⟨b26, hS⟩ := gd_s hS
  refine VL.app (s := out3_2) (r := s25_10) Tryz.underlying31 gapp124 (by decide) rfl Fo.out (ap1 b26) (ap2 b26 (by decide)) (by decide) (fun s26_12 hs26_12 => ?_)
  replace hS := lt_to hs26_12 hS
  refine VL.back (D' := []) (by kernel_rfl) (Pend.nil) ?_
  refine VD.q rfl (q_assign rfl) (by decide) ?_
  refine VD.to (fun _ _ h => h) ?_
  refine VC.keep (ρ' := [(0, ptr r_0_b 0), (3, s26_12.val), (5, i64 q5_1_0), (6, i64 x6_3)]) [0, 3, 5, 6] rfl ?_
  refine Zr ?_
  obtain ⟨b27, hS⟩ := gd_s hS
  refine VL.q (q_add rfl rfl b27) (by decide) ?_
  refine Zm ?_
  refine VL.rnd (s26_12, (x6_3 + 1), q23_9_1.b, q23_9_1.at_, q23_9_1.err) [0, 3, 5, 6] (fun _ _ h => h) (go2 hS hK1) rfl
 replace hS := it_f h7 hS
 replace hS := up2 hS hK1
 refine Zx ?_
 refine Zq (Zr ?_)
 refine Zm ?_
 refine VL.shut out3_2 124 (fun _ _ _ _ => trivial) ?_
 obtain ⟨y29_14, ey29_14, hS⟩ := bd_s hS
 refine VL.callF (slices_Clip_object_Item_object_Item_ct out3_2 ey29_14) rfl (by decide) ?_
 rintro q29_14_0 rfl
 try dsimp only
 refine Za ?_
 refine Zl ?_
 cases hS
 exact VC.ret (fin1 (.inr rfl) rfl rfl (q29_14_0, ⟨c0_4, c1_5, c2_6⟩, ⟨q5_1_2.bad⟩) rfl rfl (by (try dsimp only); exact InM.out) (by (try dsimp only); exact EntO.out))
theorem object_reader_numbers_ct (r_0_b : Nat) (r_0 : ObjectReader) (r_0_dec_b : Nat) (r_0_dec : CodecDec) {r : List Int × CodecDecP × ObjectReader} (hS : Sh.object_reader_numbers r_0 r_0_dec.pl = some r) :
 Ct Tryz.prog 195 [ptr r_0_b 0] (r_0_dec.b.ok.and r_0_dec.err.ok) (Ow.star (Blk r_0_dec_b [r_0_dec.b.val, i64 r_0_dec.at_, r_0_dec.err.val] 233) (Blk r_0_b [ptr r_0_dec_b 0, .bool r_0.bad] 242)) (X := Sv Int × CodecDec × ObjectReader) (fun x => x.1.val) (fun x => r = (x.1.l, x.2.1.pl, x.2.2)) (fun x => (x.1.ok.and (x.2.1.b.ok.and x.2.1.err.ok))) (fun x => Ow.star (Blk r_0_dec_b [x.2.1.b.val, i64 x.2.1.at_, x.2.1.err.val] 233) (Blk r_0_b [ptr r_0_dec_b 0, .bool x.2.2.bad] 242)) := by
 refine Ct.of Tryz.func195 rfl (by kernel_rfl) Tryz.ntmps195 (by simp) fun c => ?_
 unfold Sh.object_reader_numbers at hS
 refine Zq (Zr ?_)
 refine Za ?_
 refine Zl ?_
 refine Zq (Zr ?_)
 refine Za ?_
 refine Zl ?_
 refine Zq (Zq (Zr ?_))
 refine Zm ?_
 obtain ⟨y5_1, ey5_1, hS⟩ := bd_s hS
 refine VL.callO (object_reader_many_ct r_0_b r_0 r_0_dec_b r_0_dec ey5_1) rfl (by decide) ?_
 rintro ⟨q5_1_0, q5_1_1, q5_1_2⟩ rfl
 try dsimp only
 refine Zm ?_
 refine Zl ?_
 refine Zb ?_
 refine VC.nilO (⟨none, 0, []⟩ : Sv Int) 3 ⟨rfl, rfl⟩ ?_
 refine VC.iter (S := Sv Int × Int × Sv UInt8 × Int × Er) (fun sg => (sg.1.l, sg.2.1, sg.2.2.1.l, sg.2.2.2.1, sg.2.2.2.2.pl)) (fun sg => [(0, ptr r_0_b 0), (3, sg.1.val), (5, i64 q5_1_0), (6, i64 sg.2.1)]) (fun sg => (sg.2.2.1.ok.and sg.2.2.2.2.ok)) (fun sg => Ow.star (Blk r_0_b [ptr r_0_dec_b 0, .bool q5_1_2.bad] 242) (Ow.star (Blk r_0_dec_b [sg.2.2.1.val, i64 sg.2.2.2.1, sg.2.2.2.2.val] 233) (Ow.star (Sv.own sg.1 3) (Ow.emp)))) (⟨none, 0, []⟩, 0, q5_1_1.b, q5_1_1.at_, q5_1_1.err) [0, 3, 5, 6] hS rfl ?_
 clear hS
 rintro ⟨out3_2, x6_3, c0_4, c1_5, c2_6⟩ m1 y1 hS hK1
 show VC _ _ _ _ _ [(0, ptr r_0_b 0), (3, out3_2.val), (5, i64 q5_1_0), (6, i64 x6_3)] (Mo.and (c0_4.ok.and c2_6.ok) _) (Ow.star (Blk r_0_b [ptr r_0_dec_b 0, .bool q5_1_2.bad] 242) (Ow.star (Blk r_0_dec_b [c0_4.val, i64 c1_5, c2_6.val] 233) (Ow.star (Sv.own out3_2 3) (Ow.emp))))
 refine Zq (Zr ?_)
 refine VL.q (q_lss rfl rfl) (by decide) ?_
 refine Zl ?_
 refine Zq ?_
 refine VC.cond_dec rfl (fun h7 => ?_) (fun h7 => ?_)
 ·
  replace hS := it_t h7 hS
  refine Zk ?_
  refine Zq (Zb (Zr ?_))
  refine Zm ?_
  refine Zm ?_
  refine VL.q (q_nilCheck rfl) (by decide) ?_
  refine VL.q (q_field gfa242_0 rfl) (by decide) ?_
  refine VL.q (q_fe gone129 rfl rfl) (by decide) ?_
  obtain ⟨y13_7, ey13_7, hS⟩ := bd_s hS
  refine VL.callO (codec_Dec_Int_ct r_0_dec_b (⟨c0_4, c1_5, c2_6⟩ : CodecDec) ey13_7) rfl (by decide) ?_
  rintro ⟨q13_7_0, q13_7_1⟩ rfl
  try dsimp only
  refine VL.lit (α := Int) (xs := [.tmp 13]) (vs := [i64 q13_7_0]) [q13_7_0] Tryz.underlying32 glit3 (by decide) rfl rfl rfl rfl (by decide) (fun _ _ _ _ => trivial) (by decide) (fun s14_8 hs14_8 => ?_) (by decide)
  replace hS := lt_to hs14_8 hS
  obtain ⟨b15, hS⟩ := gd_s hS
  refine VL.app (s := out3_2) (r := s14_8) Tryz.underlying32 gapp3 (by decide) rfl Fo.out (ap1 b15) (ap2 b15 (by decide)) (by decide) (fun s15_10 hs15_10 => ?_)
  replace hS := lt_to hs15_10 hS
  refine Za ?_
  refine Zl ?_
  refine VC.keep (ρ' := [(0, ptr r_0_b 0), (3, s15_10.val), (5, i64 q5_1_0), (6, i64 x6_3)]) [0, 3, 5, 6] rfl ?_
  refine Zr ?_
  obtain ⟨b16, hS⟩ := gd_s hS
  refine VL.q (q_add rfl rfl b16) (by decide) ?_
  refine Zm ?_
  refine VL.rnd (s15_10, (x6_3 + 1), q13_7_1.b, q13_7_1.at_, q13_7_1.err) [0, 3, 5, 6] (fun _ _ h => h) (go2 hS hK1) rfl
 replace hS := it_f h7 hS
 replace hS := up2 hS hK1
 refine Zx ?_
 refine Zq (Zr ?_)
 refine Zm ?_
 refine VL.shut out3_2 3 (fun _ _ _ _ => trivial) ?_
 obtain ⟨y18_12, ey18_12, hS⟩ := bd_s hS
 refine VL.callF (slices_Clip_int_int_ct out3_2 ey18_12) rfl (by decide) ?_
 rintro q18_12_0 rfl
 try dsimp only
 refine Za ?_
 refine Zl ?_
 cases hS
 exact VC.ret (fin1 (.inr rfl) rfl rfl (q18_12_0, ⟨c0_4, c1_5, c2_6⟩, ⟨q5_1_2.bad⟩) rfl rfl (by (try dsimp only); exact InM.out) (by (try dsimp only); exact EntO.out))
theorem object_reader_object_ct (r_0_b : Nat) (r_0 : ObjectReader) (r_0_dec_b : Nat) (r_0_dec : CodecDec) {r : ObjectObjectP × CodecDecP × ObjectReader} (hS : Sh.object_reader_object r_0 r_0_dec.pl = some r) :
 Ct Tryz.prog 127 [ptr r_0_b 0] (r_0_dec.b.ok.and r_0_dec.err.ok) (Ow.star (Blk r_0_dec_b [r_0_dec.b.val, i64 r_0_dec.at_, r_0_dec.err.val] 233) (Blk r_0_b [ptr r_0_dec_b 0, .bool r_0.bad] 242)) (X := ObjectObject × CodecDec × ObjectReader) (fun x => .agg (Dat.enc x.1).toArray) (fun x => r = (x.1.pl, x.2.1.pl, x.2.2)) (fun x => (x.1.m.and (x.2.1.b.ok.and x.2.1.err.ok))) (fun x => Ow.star (Blk r_0_dec_b [x.2.1.b.val, i64 x.2.1.at_, x.2.1.err.val] 233) (Blk r_0_b [ptr r_0_dec_b 0, .bool x.2.2.bad] 242)) := by
 refine Ct.of Tryz.func127 rfl (by kernel_rfl) Tryz.ntmps127 (by simp) fun c => ?_
 unfold Sh.object_reader_object at hS
 refine Zq (Zr ?_)
 refine VL.alloc (cs := [i64 0, .slice none 0 0, .slice none 0 0, i64 0, .slice none 0 0, i64 0, str []]) (by kernel_rfl) (by decide) fun b2_1 => ?_
 refine Zl ?_
 refine Zq (Zr ?_)
 refine Zm ?_
 refine VL.q (q_nilCheck rfl) (by decide) ?_
 refine VL.q (q_field gfa242_0 rfl) (by decide) ?_
 refine VL.q (q_fe gone129 rfl rfl) (by decide) ?_
 obtain ⟨y8_2, ey8_2, hS⟩ := bd_s hS
 refine VL.callO (codec_Dec_Int_ct r_0_dec_b r_0_dec ey8_2) rfl (by decide) ?_
 rintro ⟨q8_2_0, q8_2_1⟩ rfl
 try dsimp only
 refine VL.q (q_build (vs := [(0, i64 q8_2_0)]) (cs := #[i64 q8_2_0, .slice none 0 0, .slice none 0 0, i64 0, .slice none 0 0, i64 0, str []]) rfl (by kernel_rfl)) (by decide) ?_
 refine VL.alloc (cs := [i64 0, .slice none 0 0, .slice none 0 0, i64 0, .slice none 0 0, i64 0, str []]) (by kernel_rfl) (by decide) fun b3_3 => ?_
 refine VL.store (vc := [i64 q8_2_0, .slice none 0 0, .slice none 0 0, i64 0, .slice none 0 0, i64 0, str []]) (cs' := [i64 q8_2_0, .slice none 0 0, .slice none 0 0, i64 0, .slice none 0 0, i64 0, str []]) rfl rfl rfl gsz34 rfl rfl (Nat.le_of_ble_eq_true rfl) rfl ?_
 refine Zl ?_
 refine Zq (Zq (Zr ?_))
 refine VL.q (q_field gfa34_0 rfl) (by decide) ?_
 refine VL.q (q_fe gone3 rfl rfl) (by decide) ?_
 refine Zl ?_
 refine VC.keep (ρ' := [(0, ptr r_0_b 0), (2, ptr b2_1 0), (3, ptr b3_3 0), (11, i64 q8_2_0)]) [0, 2, 3, 11] rfl ?_
 refine Zb (Zq (Zr ?_))
 refine VL.q (q_eql rfl rfl) (by decide) ?_
 refine Za ?_
 refine Zl ?_
 refine VC.cond_dec rfl (fun h12 => ?_) (fun h12 => ?_)
 ·
  replace hS := it_t h12 hS
  refine Zr ?_
  refine Zm ?_
  refine VL.q (q_nilCheck rfl) (by decide) ?_
  refine VL.q (q_field gfa242_0 rfl) (by decide) ?_
  refine VL.q (q_fe gone129 rfl rfl) (by decide) ?_
  obtain ⟨y18_4, ey18_4, hS⟩ := bd_s hS
  refine VL.callO (codec_Dec_Text_ct r_0_dec_b q8_2_1 ey18_4) rfl (by decide) ?_
  rintro ⟨q18_4_0, q18_4_1⟩ rfl
  try dsimp only
  obtain ⟨b19, hS⟩ := gd_s hS
  refine VL.s2b Tryz.underlying9 Tryz.underlying22 Tryz.underlying5 rfl b19 (by decide) fun s19_5 hs19_5 => ?_
  replace hS := lt_to hs19_5 hS
  refine VL.q (q_field gfa34_1 rfl) (by decide) ?_
  refine VL.store (vc := [s19_5.val]) (cs' := [i64 q8_2_0, s19_5.val, .slice none 0 0, i64 0, .slice none 0 0, i64 0, str []]) rfl rfl rfl gsz22 rfl rfl (Nat.le_of_ble_eq_true rfl) rfl ?_
  refine Zl ?_
  refine VC.keep (ρ' := [(2, ptr b2_1 0), (3, ptr b3_3 0)]) [2, 3] rfl ?_
  refine Zq (Zr ?_)
  refine VL.q (q_fes gagg34 rfl rfl) (by decide) ?_
  refine VL.store (vc := [i64 q8_2_0, s19_5.val, .slice none 0 0, i64 0, .slice none 0 0, i64 0, str []]) (cs' := [i64 q8_2_0, s19_5.val, .slice none 0 0, i64 0, .slice none 0 0, i64 0, str []]) rfl rfl rfl gsz34 rfl rfl (Nat.le_of_ble_eq_true rfl) rfl ?_
  refine Zl ?_
  cases hS
  exact VC.ret (finG (vs := [.agg #[i64 q8_2_0, s19_5.val, .slice none 0 0, i64 0, .slice none 0 0, i64 0, str []]]) (.inr rfl) rfl (RVs.cell gagg34 rfl rfl Rd.blk (RVs.nil)) (⟨q8_2_0, s19_5, ⟨none, 0, []⟩, 0, ⟨none, 0, []⟩, 0, []⟩, ⟨q18_4_1.b, q18_4_1.at_, q18_4_1.err⟩, ⟨r_0.bad⟩) rfl rfl (by (try dsimp only); exact InM.out) (by (try dsimp only); exact EntO.out))
 replace hS := it_f h12 hS
 refine Zq (Zr ?_)
 refine VL.q (q_eql rfl rfl) (by decide) ?_
 refine Za ?_
 refine Zl ?_
 refine VC.cond_dec rfl (fun h21 => ?_) (fun h21 => ?_)
 ·
  replace hS := it_t h21 hS
  refine Zr ?_
  refine Zm ?_
  obtain ⟨y24_7, ey24_7, hS⟩ := bd_s hS
  refine VL.callO (object_reader_items_ct r_0_b r_0 r_0_dec_b q8_2_1 ey24_7) rfl (by decide) ?_
  rintro ⟨q24_7_0, q24_7_1, q24_7_2⟩ rfl
  try dsimp only
  refine VL.q (q_field gfa34_2 rfl) (by decide) ?_
  refine VL.store (vc := [q24_7_0.val]) (cs' := [i64 q8_2_0, .slice none 0 0, q24_7_0.val, i64 0, .slice none 0 0, i64 0, str []]) rfl rfl rfl gsz31 rfl rfl (Nat.le_of_ble_eq_true rfl) rfl ?_
  refine Zl ?_
  refine VC.keep (ρ' := [(2, ptr b2_1 0), (3, ptr b3_3 0)]) [2, 3] rfl ?_
  refine Zq (Zr ?_)
  refine VL.q (q_fes gagg34 rfl rfl) (by decide) ?_
  refine VL.store (vc := [i64 q8_2_0, .slice none 0 0, q24_7_0.val, i64 0, .slice none 0 0, i64 0, str []]) (cs' := [i64 q8_2_0, .slice none 0 0, q24_7_0.val, i64 0, .slice none 0 0, i64 0, str []]) rfl rfl rfl gsz34 rfl rfl (Nat.le_of_ble_eq_true rfl) rfl ?_
  refine Zl ?_
  cases hS
  exact VC.ret (finG (vs := [.agg #[i64 q8_2_0, .slice none 0 0, q24_7_0.val, i64 0, .slice none 0 0, i64 0, str []]]) (.inr rfl) rfl (RVs.cell gagg34 rfl rfl Rd.blk (RVs.nil)) (⟨q8_2_0, ⟨none, 0, []⟩, q24_7_0, 0, ⟨none, 0, []⟩, 0, []⟩, ⟨q24_7_1.b, q24_7_1.at_, q24_7_1.err⟩, ⟨q24_7_2.bad⟩) rfl rfl (by (try dsimp only); exact InM.out) (by (try dsimp only); exact EntO.out))
 replace hS := it_f h21 hS
 refine Zq (Zr ?_)
 refine VL.q (q_eql rfl rfl) (by decide) ?_
 refine Za ?_
 refine Zl ?_
 refine VC.cond_dec rfl (fun h26 => ?_) (fun h26 => ?_)
 ·
  replace hS := it_t h26 hS
  refine Zq (Zr ?_)
  refine Zm ?_
  refine VL.q (q_nilCheck rfl) (by decide) ?_
  refine VL.q (q_field gfa242_0 rfl) (by decide) ?_
  refine VL.q (q_fe gone129 rfl rfl) (by decide) ?_
  obtain ⟨y32_8, ey32_8, hS⟩ := bd_s hS
  refine VL.callO (codec_Dec_Int_ct r_0_dec_b q8_2_1 ey32_8) rfl (by decide) ?_
  rintro ⟨q32_8_0, q32_8_1⟩ rfl
  try dsimp only
  refine VL.q (q_field gfa34_3 rfl) (by decide) ?_
  refine VL.store (vc := [i64 q32_8_0]) (cs' := [i64 q8_2_0, .slice none 0 0, .slice none 0 0, i64 q32_8_0, .slice none 0 0, i64 0, str []]) rfl rfl rfl gsz3 rfl rfl (Nat.le_of_ble_eq_true rfl) rfl ?_
  refine Zl ?_
  refine VC.keep (ρ' := [(0, ptr r_0_b 0), (2, ptr b2_1 0), (3, ptr b3_3 0)]) [0, 2, 3] rfl ?_
  refine Zq (Zr ?_)
  refine Zm ?_
  obtain ⟨y35_9, ey35_9, hS⟩ := bd_s hS
  refine VL.callO (object_reader_numbers_ct r_0_b r_0 r_0_dec_b q32_8_1 ey35_9) rfl (by decide) ?_
  rintro ⟨q35_9_0, q35_9_1, q35_9_2⟩ rfl
  try dsimp only
  refine VL.q (q_field gfa34_4 rfl) (by decide) ?_
  refine VL.store (vc := [q35_9_0.val]) (cs' := [i64 q8_2_0, .slice none 0 0, .slice none 0 0, i64 q32_8_0, q35_9_0.val, i64 0, str []]) rfl rfl rfl gsz32 rfl rfl (Nat.le_of_ble_eq_true rfl) rfl ?_
  refine Zl ?_
  refine VC.draw [(0, true), (1, true), (2, true), (3, true), (5, true), (6, true), (7, true), (8, true), (4, false), (10, true), (9, false), (11, false), (12, true), (13, false)] mixed (by kernel_rfl) (by kernel_rfl) (by kernel_rfl) ?_
  refine VD.q rfl (q_move rfl) (by decide) ?_
  refine VD.q rfl (q_nilCheck rfl) (by decide) ?_
  refine VD.q rfl (q_field gfa242_0 rfl) (by decide) ?_
  refine VD.q rfl (q_fe gone129 rfl rfl) (by decide) ?_
  refine VD.q rfl (q_move rfl) (by decide) ?_
  refine VD.q rfl (q_nilCheck rfl) (by decide) ?_
  refine VD.q rfl (q_field gfa242_0 rfl) (by decide) ?_
  refine VD.q rfl (q_fe gone129 rfl rfl) (by decide) ?_
  refine VD.one rfl ?_
  obtain ⟨y41_10, ey41_10, hS⟩ := bd_s hS
  refine VL.callO (codec_Dec_Int_ct r_0_dec_b q35_9_1 ey41_10) rfl (by decide) ?_
  rintro ⟨q41_10_0, q41_10_1⟩ rfl
  try dsimp only
  refine VL.back (D' := [(8, ptr r_0_dec_b 0), (7, ptr r_0_b 0), (6, ptr r_0_b 0)]) (by kernel_rfl) (Pend.cons rfl (q_fe gone129 rfl rfl) (Pend.cons rfl (q_field gfa242_0 rfl) (Pend.cons rfl (q_nilCheck rfl) (Pend.nil)))) ?_
  refine VD.q rfl (q_field gfa34_5 rfl) (by decide) ?_
  refine VD.one rfl ?_
  obtain ⟨y46_11, ey46_11, hS⟩ := bd_s hS
  refine VL.callO (codec_Dec_Text_ct r_0_dec_b q41_10_1 ey46_11) rfl (by decide) ?_
  rintro ⟨q46_11_0, q46_11_1⟩ rfl
  try dsimp only
  refine VL.back (D' := [(10, ptr b3_3 5)]) (by kernel_rfl) (Pend.cons rfl (q_field gfa34_5 rfl) (Pend.nil)) ?_
  refine VD.one rfl ?_
  refine VL.store (vc := [i64 q41_10_0]) (cs' := [i64 q8_2_0, .slice none 0 0, .slice none 0 0, i64 q32_8_0, q35_9_0.val, i64 q41_10_0, str []]) rfl rfl rfl gsz3 rfl rfl (Nat.le_of_ble_eq_true rfl) rfl ?_
  refine VL.back (D' := []) (by kernel_rfl) (Pend.nil) ?_
  refine VD.q rfl (q_field gfa34_6 rfl) (by decide) ?_
  refine VD.one rfl ?_
  refine VL.store (vc := [str q46_11_0]) (cs' := [i64 q8_2_0, .slice none 0 0, .slice none 0 0, i64 q32_8_0, q35_9_0.val, i64 q41_10_0, str q46_11_0]) rfl rfl rfl gsz9 rfl rfl (Nat.le_of_ble_eq_true rfl) rfl ?_
  refine VL.back (D' := []) (by kernel_rfl) (Pend.nil) ?_
  refine VD.to (fun _ _ h => h) ?_
  refine VC.keep (ρ' := [(2, ptr b2_1 0), (3, ptr b3_3 0)]) [2, 3] rfl ?_
  refine Zq (Zr ?_)
  refine VL.q (q_fes gagg34 rfl rfl) (by decide) ?_
  refine VL.store (vc := [i64 q8_2_0, .slice none 0 0, .slice none 0 0, i64 q32_8_0, q35_9_0.val, i64 q41_10_0, str q46_11_0]) (cs' := [i64 q8_2_0, .slice none 0 0, .slice none 0 0, i64 q32_8_0, q35_9_0.val, i64 q41_10_0, str q46_11_0]) rfl rfl rfl gsz34 rfl rfl (Nat.le_of_ble_eq_true rfl) rfl ?_
  refine Zl ?_
  cases hS
  exact VC.ret (finG (vs := [.agg #[i64 q8_2_0, .slice none 0 0, .slice none 0 0, i64 q32_8_0, q35_9_0.val, i64 q41_10_0, str q46_11_0]]) (.inr rfl) rfl (RVs.cell gagg34 rfl rfl Rd.blk (RVs.nil)) (⟨q8_2_0, ⟨none, 0, []⟩, ⟨none, 0, []⟩, q32_8_0, q35_9_0, q41_10_0, q46_11_0⟩, ⟨q46_11_1.b, q46_11_1.at_, q46_11_1.err⟩, ⟨q35_9_2.bad⟩) rfl rfl (by (try dsimp only); exact InM.out) (by (try dsimp only); exact EntO.out))
 replace hS := it_f h26 hS
 refine Zk ?_
 refine Zq (Zr ?_)
 refine VL.q (q_fes gagg34 rfl rfl) (by decide) ?_
 refine VL.store (vc := [i64 q8_2_0, .slice none 0 0, .slice none 0 0, i64 0, .slice none 0 0, i64 0, str []]) (cs' := [i64 q8_2_0, .slice none 0 0, .slice none 0 0, i64 0, .slice none 0 0, i64 0, str []]) rfl rfl rfl gsz34 rfl rfl (Nat.le_of_ble_eq_true rfl) rfl ?_
 refine Zl ?_
 refine VC.keep (ρ' := [(2, ptr b2_1 0)]) [2] rfl ?_
 cases hS
 exact VC.ret (finG (vs := [.agg #[i64 q8_2_0, .slice none 0 0, .slice none 0 0, i64 0, .slice none 0 0, i64 0, str []]]) (.inr rfl) rfl (RVs.cell gagg34 rfl rfl Rd.blk (RVs.nil)) (⟨q8_2_0, ⟨none, 0, []⟩, ⟨none, 0, []⟩, 0, ⟨none, 0, []⟩, 0, []⟩, ⟨q8_2_1.b, q8_2_1.at_, q8_2_1.err⟩, ⟨r_0.bad⟩) rfl rfl (by (try dsimp only); exact InM.out) (by (try dsimp only); exact EntO.out))
theorem codec_Dec_Err_ct (d_0_b : Nat) (d_0 : CodecDec) {r : Err} (hS : Sh.codec_Dec_Err d_0.pl = some r) :
 Ct Tryz.prog 53 [ptr d_0_b 0] (d_0.b.ok.and d_0.err.ok) (Blk d_0_b [d_0.b.val, i64 d_0.at_, d_0.err.val] 233) (X := Er) (fun x => x.val) (fun x => r = x.pl) (fun x => x.ok) (fun x => Blk d_0_b [d_0.b.val, i64 d_0.at_, d_0.err.val] 233) := by
 refine Ct.of Tryz.func53 rfl (by kernel_rfl) Tryz.ntmps53 (by simp) fun c => ?_
 unfold Sh.codec_Dec_Err at hS
 refine Zq (Zr ?_)
 refine Za ?_
 refine Zl ?_
 refine Zq (Zr ?_)
 refine Zm ?_
 refine VL.q (q_nilCheck rfl) (by decide) ?_
 refine VL.q (q_field gfa233_2 rfl) (by decide) ?_
 refine VL.q (q_fe gone26 rfl rfl) (by decide) ?_
 refine Za ?_
 refine Zl ?_
 cases hS
 exact VC.ret (fin1 (.inr rfl) rfl rfl d_0.err rfl rfl (by (try dsimp only); exact InM.out) (by (try dsimp only); exact EntO.out))
theorem codec_Dec_Left_ct (d_0_b : Nat) (d_0 : CodecDec) {r : Int} (hS : Sh.codec_Dec_Left d_0.pl = some r) :
 Ct Tryz.prog 54 [ptr d_0_b 0] (d_0.b.ok.and (d_0.err.ok.and (Cells d_0_b 0 [d_0.b.val, i64 d_0.at_, d_0.err.val]))) (Ow.emp) (X := Unit) (fun _ => i64 r) (fun _ => True) (fun _ => Mo.tt) (fun _ => Ow.emp) := by
 refine Ct.of Tryz.func54 rfl (by kernel_rfl) Tryz.ntmps54 (by simp) fun c => ?_
 unfold Sh.codec_Dec_Left at hS
 refine Zq (Zr ?_)
 refine Za ?_
 refine Zl ?_
 refine Zq (Zq (Zr ?_))
 refine Zm ?_
 refine VL.q (q_nilCheck rfl) (by decide) ?_
 refine VL.q (q_field gfa233_2 rfl) (by decide) ?_
 refine VL.q (q_fm gone26 rfl rfl) (by decide) ?_
 refine VL.q (q_erne Tryz.underlying26 rfl) (by decide) ?_
 refine Zl ?_
 refine VC.cond_ndec rfl (fun h7 => ?_) (fun h7 => ?_)
 ·
  replace hS := it_f h7 hS
  refine Zq (Zr ?_)
  refine Za ?_
  refine Zl ?_
  cases hS
  exact Ze
 replace hS := it_t h7 hS
 refine Zk ?_
 refine Zq ?_
 refine VC.draw ((List.range 11).map fun k => (k, true)) mixed (by kernel_rfl) (by kernel_rfl) (by kernel_rfl) ?_
 refine VD.q rfl (q_move rfl) (by decide) ?_
 refine VD.q rfl (q_nilCheck rfl) (by decide) ?_
 refine VD.q rfl (q_field gfa233_0 rfl) (by decide) ?_
 refine VD.q rfl (q_fm gone22 rfl rfl) (by decide) ?_
 refine VD.q rfl (q_ln (s := d_0.b) Tryz.underlying22 rfl) (by decide) ?_
 refine VD.q rfl (q_move rfl) (by decide) ?_
 refine VD.q rfl (q_nilCheck rfl) (by decide) ?_
 refine VD.q rfl (q_field gfa233_1 rfl) (by decide) ?_
 refine VD.q rfl (q_fm gone3 rfl rfl) (by decide) ?_
 obtain ⟨b17, hS⟩ := gd_s hS
 refine VD.q rfl (q_sub rfl rfl b17) (by decide) ?_
 refine VD.q rfl (q_assign rfl) (by decide) ?_
 refine VD.to (fun _ _ h => h) ?_
 refine VC.keep (ρ' := [(2, i64 ((d_0.b.l.length : Int) - d_0.at_))]) [2] rfl ?_
 cases hS
 exact Ze
theorem object_Decode_ct (b_0 : Sv UInt8) {r : ObjectObjectP × Err} (hS : Sh.object_Decode b_0.l = some r) :
 Ct Tryz.prog 51 [b_0.val] b_0.ok (Ow.emp) (X := ObjectObject × Er) (fun x => .tuple #[.agg (Dat.enc x.1).toArray, x.2.val]) (fun x => r = (x.1.pl, x.2.pl)) (fun x => (x.1.m.and x.2.ok)) (fun x => Ow.emp) := by
 refine Ct.of Tryz.func51 rfl (by kernel_rfl) Tryz.ntmps51 (by simp) fun c => ?_
 unfold Sh.object_Decode at hS
 refine Zq (Zr ?_)
 refine VL.alloc (cs := [i64 0, .slice none 0 0, .slice none 0 0, i64 0, .slice none 0 0, i64 0, str []]) (by kernel_rfl) (by decide) fun b2_1 => ?_
 refine Za ?_
 refine Zl ?_
 refine Zq (Zr ?_)
 refine Zm ?_
 obtain ⟨y12_2, ey12_2, hS⟩ := bd_s hS
 refine VL.callF (seal_Open_ct b_0 ey12_2) rfl (by decide) ?_
 rintro ⟨q12_2_0, q12_2_1⟩ rfl
 try dsimp only
 refine Zm ?_
 refine VL.q (q_extract rfl rfl) (by decide) ?_
 refine VL.q (q_extract rfl rfl) (by decide) ?_
 refine Za ?_
 refine Za ?_
 refine Zl ?_
 refine Zq (Zq (Zr ?_))
 refine Zm ?_
 refine VL.q (q_erne Tryz.underlying26 rfl) (by decide) ?_
 refine Zl ?_
 refine VC.keep (ρ' := [(0, b_0.val), (2, ptr b2_1 0), (4, q12_2_0.val), (5, q12_2_1.val), (16, .bool (!decide (q12_2_1.pl.isNil = true)))]) [0, 2, 4, 5, 16] rfl ?_
 refine VC.cond_ndec rfl (fun h16 => ?_) (fun h16 => ?_)
 ·
  replace hS := it_f h16 hS
  refine Zq (Zr ?_)
  refine VL.q (q_build (vs := []) (cs := #[i64 0, .slice none 0 0, .slice none 0 0, i64 0, .slice none 0 0, i64 0, str []]) rfl (by kernel_rfl)) (by decide) ?_
  refine Zm ?_
  refine VL.store (vc := [i64 0, .slice none 0 0, .slice none 0 0, i64 0, .slice none 0 0, i64 0, str []]) (cs' := [i64 0, .slice none 0 0, .slice none 0 0, i64 0, .slice none 0 0, i64 0, str []]) rfl rfl rfl gsz34 rfl rfl (Nat.le_of_ble_eq_true rfl) rfl ?_
  refine Za ?_
  refine Zl ?_
  cases hS
  exact VC.ret (finG (vs := [.agg #[i64 0, .slice none 0 0, .slice none 0 0, i64 0, .slice none 0 0, i64 0, str []], q12_2_1.val]) (.inr rfl) rfl (RVs.cell gagg34 rfl rfl Rd.blk (RVs.tmp rfl (RVs.nil))) (⟨0, ⟨none, 0, []⟩, ⟨none, 0, []⟩, 0, ⟨none, 0, []⟩, 0, []⟩, q12_2_1) rfl rfl (by (try dsimp only); exact InM.out) (fun _ _ => trivial))
 replace hS := it_t h16 hS
 refine Zk ?_
 refine Zq (Zr ?_)
 refine Zm ?_
 obtain ⟨y20_3, ey20_3, hS⟩ := bd_s hS
 refine VL.callO (codec_Of_ct q12_2_0 ey20_3) rfl (by decide) ?_
 rintro ⟨q20_3_0, q20_3_1⟩ rfl
 try dsimp only
 refine VL.q (q_build (vs := [(0, ptr q20_3_0 0)]) (cs := #[ptr q20_3_0 0, .bool false]) rfl (by kernel_rfl)) (by decide) ?_
 refine VL.box (cs := [ptr q20_3_0 0, .bool false]) rfl rfl (by decide) fun b22_4 => ?_
 refine Za ?_
 refine Zl ?_
 refine Zq (Zr ?_)
 refine Zm ?_
 obtain ⟨y24_5, ey24_5, hS⟩ := bd_s hS
 refine VL.callO (object_reader_object_ct b22_4 (⟨false⟩ : ObjectReader) q20_3_0 q20_3_1 ey24_5) rfl (by decide) ?_
 rintro ⟨q24_5_0, q24_5_1, q24_5_2⟩ rfl
 try dsimp only
 refine VL.alloc (cs := [i64 0, .slice none 0 0, .slice none 0 0, i64 0, .slice none 0 0, i64 0, str []]) (by kernel_rfl) (by decide) fun b7_6 => ?_
 refine VL.store (vc := [i64 q24_5_0.kind, q24_5_0.data.val, q24_5_0.items.val, i64 q24_5_0.tree, q24_5_0.parents.val, i64 q24_5_0.time, str q24_5_0.text]) (cs' := [i64 q24_5_0.kind, q24_5_0.data.val, q24_5_0.items.val, i64 q24_5_0.tree, q24_5_0.parents.val, i64 q24_5_0.time, str q24_5_0.text]) rfl rfl rfl gsz34 rfl rfl (Nat.le_of_ble_eq_true rfl) rfl ?_
 refine Zl ?_
 refine VC.keep (ρ' := [(0, b_0.val), (2, ptr b2_1 0), (6, ptr b22_4 0), (7, ptr b7_6 0)]) [0, 2, 6, 7] rfl ?_
 refine Zq (Zq (Zr ?_))
 refine Zm ?_
 refine VL.q (q_nilCheck rfl) (by decide) ?_
 refine VL.q (q_field gfa242_1 rfl) (by decide) ?_
 refine VL.q (q_fe gone4 rfl rfl) (by decide) ?_
 refine Zl ?_
 refine VC.cond rfl (fun h28 => ?_) (fun h28 => ?_)
 ·
  replace hS := it_t h28 hS
  refine Zq (Zr ?_)
  refine VL.q (q_build (vs := []) (cs := #[i64 0, .slice none 0 0, .slice none 0 0, i64 0, .slice none 0 0, i64 0, str []]) rfl (by kernel_rfl)) (by decide) ?_
  refine VL.q (q_mkif Tryz.underlying131 (fun _ h => by cases h) rfl) (by decide) ?_
  obtain ⟨y31_7, ey31_7, hS⟩ := bd_s hS
  refine VL.callF (object_fault_ct 0 (Er.no 2) ey31_7) rfl (by decide) ?_
  rintro q31_7_0 rfl
  try dsimp only
  refine VL.store (vc := [i64 0, .slice none 0 0, .slice none 0 0, i64 0, .slice none 0 0, i64 0, str []]) (cs' := [i64 0, .slice none 0 0, .slice none 0 0, i64 0, .slice none 0 0, i64 0, str []]) rfl rfl rfl gsz34 rfl rfl (Nat.le_of_ble_eq_true rfl) rfl ?_
  refine Za ?_
  refine Zl ?_
  refine VC.keep (ρ' := [(2, ptr b2_1 0), (3, q31_7_0.val)]) [2, 3] rfl ?_
  cases hS
  exact VC.ret (finG (vs := [.agg #[i64 0, .slice none 0 0, .slice none 0 0, i64 0, .slice none 0 0, i64 0, str []], q31_7_0.val]) (.inr rfl) rfl (RVs.cell gagg34 rfl rfl Rd.blk (RVs.tmp rfl (RVs.nil))) (⟨0, ⟨none, 0, []⟩, ⟨none, 0, []⟩, 0, ⟨none, 0, []⟩, 0, []⟩, q31_7_0) rfl rfl (by (try dsimp only); exact InM.out) (fun _ _ => trivial))
 replace hS := it_b h28 hS
 refine Zk ?_
 refine Zq (Zq (Zr ?_))
 refine Zm ?_
 refine VL.q (q_nilCheck rfl) (by decide) ?_
 refine VL.q (q_field gfa242_0 rfl) (by decide) ?_
 refine VL.q (q_fe gone129 rfl rfl) (by decide) ?_
 obtain ⟨y36_8, ey36_8, hS⟩ := bd_s hS
 refine VL.callO (codec_Dec_Err_ct q20_3_0 q24_5_1 ey36_8) rfl (by decide) ?_
 rintro q36_8_0 rfl
 try dsimp only
 refine Za ?_
 refine Zl ?_
 refine VC.keep (ρ' := [(0, b_0.val), (2, ptr b2_1 0), (6, ptr b22_4 0), (7, ptr b7_6 0), (8, q36_8_0.val)]) [0, 2, 6, 7, 8] rfl ?_
 refine Zq (Zr ?_)
 refine Zm ?_
 refine VL.q (q_erne Tryz.underlying26 rfl) (by decide) ?_
 refine Zl ?_
 refine VC.cond_ndec rfl (fun h38 => ?_) (fun h38 => ?_)
 ·
  replace hS := it_f h38 hS
  refine Zq (Zr ?_)
  refine VL.q (q_build (vs := []) (cs := #[i64 0, .slice none 0 0, .slice none 0 0, i64 0, .slice none 0 0, i64 0, str []]) rfl (by kernel_rfl)) (by decide) ?_
  refine Zm ?_
  refine VL.store (vc := [i64 0, .slice none 0 0, .slice none 0 0, i64 0, .slice none 0 0, i64 0, str []]) (cs' := [i64 0, .slice none 0 0, .slice none 0 0, i64 0, .slice none 0 0, i64 0, str []]) rfl rfl rfl gsz34 rfl rfl (Nat.le_of_ble_eq_true rfl) rfl ?_
  refine Za ?_
  refine Zl ?_
  cases hS
  exact VC.ret (finG (vs := [.agg #[i64 0, .slice none 0 0, .slice none 0 0, i64 0, .slice none 0 0, i64 0, str []], q36_8_0.val]) (.inr rfl) rfl (RVs.cell gagg34 rfl rfl Rd.blk (RVs.tmp rfl (RVs.nil))) (⟨0, ⟨none, 0, []⟩, ⟨none, 0, []⟩, 0, ⟨none, 0, []⟩, 0, []⟩, q36_8_0) rfl rfl (by (try dsimp only); exact InM.out) (fun _ _ => trivial))
 replace hS := it_t h38 hS
 refine Zk ?_
 refine Zq (Zq (Zr ?_))
 refine Zm ?_
 refine VL.q (q_nilCheck rfl) (by decide) ?_
 refine VL.q (q_field gfa242_0 rfl) (by decide) ?_
 refine VL.q (q_fe gone129 rfl rfl) (by decide) ?_
 obtain ⟨y45_9, ey45_9, hS⟩ := bd_s hS
 refine VL.q (q_callR (codec_Dec_Left_ct q20_3_0 q24_5_1 ey45_9) rfl (fun _ _ => rfl)) (by decide) ?_
 refine VL.q (q_gtr rfl rfl) (by decide) ?_
 refine Zl ?_
 refine VC.keep (ρ' := [(0, b_0.val), (2, ptr b2_1 0), (7, ptr b7_6 0), (46, .bool (decide (0 < y45_9)))]) [0, 2, 7, 46] rfl ?_
 refine VC.cond_dec rfl (fun h46 => ?_) (fun h46 => ?_)
 ·
  replace hS := it_t h46 hS
  refine Zq (Zr ?_)
  refine VL.q (q_build (vs := []) (cs := #[i64 0, .slice none 0 0, .slice none 0 0, i64 0, .slice none 0 0, i64 0, str []]) rfl (by kernel_rfl)) (by decide) ?_
  refine VL.q (q_mkif Tryz.underlying131 (fun _ h => by cases h) rfl) (by decide) ?_
  obtain ⟨y49_10, ey49_10, hS⟩ := bd_s hS
  refine VL.callF (object_fault_ct 0 (Er.no 2) ey49_10) rfl (by decide) ?_
  rintro q49_10_0 rfl
  try dsimp only
  refine VL.store (vc := [i64 0, .slice none 0 0, .slice none 0 0, i64 0, .slice none 0 0, i64 0, str []]) (cs' := [i64 0, .slice none 0 0, .slice none 0 0, i64 0, .slice none 0 0, i64 0, str []]) rfl rfl rfl gsz34 rfl rfl (Nat.le_of_ble_eq_true rfl) rfl ?_
  refine Za ?_
  refine Zl ?_
  cases hS
  exact VC.ret (finG (vs := [.agg #[i64 0, .slice none 0 0, .slice none 0 0, i64 0, .slice none 0 0, i64 0, str []], q49_10_0.val]) (.inr rfl) rfl (RVs.cell gagg34 rfl rfl Rd.blk (RVs.tmp rfl (RVs.nil))) (⟨0, ⟨none, 0, []⟩, ⟨none, 0, []⟩, 0, ⟨none, 0, []⟩, 0, []⟩, q49_10_0) rfl rfl (by (try dsimp only); exact InM.out) (fun _ _ => trivial))
 replace hS := it_f h46 hS
 refine Zk ?_
 refine Zq (Zr ?_)
 refine VL.q (q_fes gagg34 rfl rfl) (by decide) ?_
 obtain ⟨y52_11, ey52_11, hS⟩ := bd_s hS
 refine VL.callO (object_Encode_ct q24_5_0 ey52_11) rfl (by decide) ?_
 rintro ⟨q52_11_0, q52_11_1⟩ rfl
 try dsimp only
 refine Zm ?_
 refine VL.q (q_extract rfl rfl) (by decide) ?_
 refine VL.q (q_extract rfl rfl) (by decide) ?_
 refine Za ?_
 refine Za ?_
 refine Zl ?_
 refine Zq (Zq (Zr ?_))
 refine Zm ?_
 refine VL.q (q_erne Tryz.underlying26 rfl) (by decide) ?_
 refine Zl ?_
 refine VC.keep (ρ' := [(0, b_0.val), (2, ptr b2_1 0), (7, ptr b7_6 0), (9, q52_11_0.val), (5, q52_11_1.val), (56, .bool (!decide (q52_11_1.pl.isNil = true)))]) [0, 2, 7, 9, 5, 56] rfl ?_
 refine VC.cond_ndec rfl (fun h56 => ?_) (fun h56 => ?_)
 ·
  replace hS := it_f h56 hS
  refine Zq (Zr ?_)
  refine VL.q (q_build (vs := []) (cs := #[i64 0, .slice none 0 0, .slice none 0 0, i64 0, .slice none 0 0, i64 0, str []]) rfl (by kernel_rfl)) (by decide) ?_
  refine Zm ?_
  refine VL.store (vc := [i64 0, .slice none 0 0, .slice none 0 0, i64 0, .slice none 0 0, i64 0, str []]) (cs' := [i64 0, .slice none 0 0, .slice none 0 0, i64 0, .slice none 0 0, i64 0, str []]) rfl rfl rfl gsz34 rfl rfl (Nat.le_of_ble_eq_true rfl) rfl ?_
  refine Za ?_
  refine Zl ?_
  cases hS
  exact VC.ret (finG (vs := [.agg #[i64 0, .slice none 0 0, .slice none 0 0, i64 0, .slice none 0 0, i64 0, str []], q52_11_1.val]) (.inr rfl) rfl (RVs.cell gagg34 rfl rfl Rd.blk (RVs.tmp rfl (RVs.nil))) (⟨0, ⟨none, 0, []⟩, ⟨none, 0, []⟩, 0, ⟨none, 0, []⟩, 0, []⟩, q52_11_1) rfl rfl (by (try dsimp only); exact InM.out) (fun _ _ => trivial))
 replace hS := it_t h56 hS
 refine Zk ?_
 refine Zq (Zq (Zr ?_))
 refine Zm ?_
 refine Zm ?_
 obtain ⟨y61_12, ey61_12, hS⟩ := bd_s hS
 refine VL.q (q_callR (bytes_Equal_ct q52_11_0 b_0 ey61_12) rfl (fun _ _ => rfl)) (by decide) ?_
 refine VL.q (q_not rfl) (by decide) ?_
 refine Zl ?_
 refine VC.cond rfl (fun h62 => ?_) (fun h62 => ?_)
 ·
  replace hS := it_t h62 hS
  refine Zq (Zr ?_)
  refine VL.q (q_build (vs := []) (cs := #[i64 0, .slice none 0 0, .slice none 0 0, i64 0, .slice none 0 0, i64 0, str []]) rfl (by kernel_rfl)) (by decide) ?_
  refine VL.q (q_mkif Tryz.underlying131 (fun _ h => by cases h) rfl) (by decide) ?_
  obtain ⟨y65_13, ey65_13, hS⟩ := bd_s hS
  refine VL.callF (object_fault_ct 0 (Er.no 2) ey65_13) rfl (by decide) ?_
  rintro q65_13_0 rfl
  try dsimp only
  refine VL.store (vc := [i64 0, .slice none 0 0, .slice none 0 0, i64 0, .slice none 0 0, i64 0, str []]) (cs' := [i64 0, .slice none 0 0, .slice none 0 0, i64 0, .slice none 0 0, i64 0, str []]) rfl rfl rfl gsz34 rfl rfl (Nat.le_of_ble_eq_true rfl) rfl ?_
  refine Za ?_
  refine Zl ?_
  refine VC.keep (ρ' := [(2, ptr b2_1 0), (3, q65_13_0.val)]) [2, 3] rfl ?_
  cases hS
  exact VC.ret (finG (vs := [.agg #[i64 0, .slice none 0 0, .slice none 0 0, i64 0, .slice none 0 0, i64 0, str []], q65_13_0.val]) (.inr rfl) rfl (RVs.cell gagg34 rfl rfl Rd.blk (RVs.tmp rfl (RVs.nil))) (⟨0, ⟨none, 0, []⟩, ⟨none, 0, []⟩, 0, ⟨none, 0, []⟩, 0, []⟩, q65_13_0) rfl rfl (by (try dsimp only); exact InM.out) (fun _ _ => trivial))
 replace hS := it_b h62 hS
 refine Zk ?_
 refine Zq (Zr ?_)
 refine VL.q (q_fes gagg34 rfl rfl) (by decide) ?_
 refine VL.store (vc := [i64 q24_5_0.kind, q24_5_0.data.val, q24_5_0.items.val, i64 q24_5_0.tree, q24_5_0.parents.val, i64 q24_5_0.time, str q24_5_0.text]) (cs' := [i64 q24_5_0.kind, q24_5_0.data.val, q24_5_0.items.val, i64 q24_5_0.tree, q24_5_0.parents.val, i64 q24_5_0.time, str q24_5_0.text]) rfl rfl rfl gsz34 rfl rfl (Nat.le_of_ble_eq_true rfl) rfl ?_
 refine Za ?_
 refine Zl ?_
 refine VC.keep (ρ' := [(2, ptr b2_1 0), (3, .nilIface)]) [2, 3] rfl ?_
 cases hS
 exact VC.ret (finG (vs := [.agg #[i64 q24_5_0.kind, q24_5_0.data.val, q24_5_0.items.val, i64 q24_5_0.tree, q24_5_0.parents.val, i64 q24_5_0.time, str q24_5_0.text], .nilIface]) (.inr rfl) rfl (RVs.cell gagg34 rfl rfl Rd.blk (RVs.tmp rfl (RVs.nil))) (⟨q24_5_0.kind, q24_5_0.data, q24_5_0.items, q24_5_0.tree, q24_5_0.parents, q24_5_0.time, q24_5_0.text⟩, .nil) rfl rfl (by (try dsimp only); exact InM.out) (fun _ _ => trivial))
theorem store_Load_ct (b_0 : Sv UInt8) {r : (Unit × Err) ⊕ (StoreStoreP × Unit)} (hS : Sh.store_Load b_0.l = some r) :
 Ct Tryz.prog 12 [b_0.val] b_0.ok (Ow.emp) (X := (Er) ⊕ (Nat × StoreStore)) (fun x => match x with | .inl x => .tuple #[.pointer none, x.val] | .inr x => .tuple #[ptr x.1 0, .nilIface]) (fun x => match x with | .inl x => r = .inl ((), x.pl) | .inr x => r = .inr (x.2.pl, ())) (fun x => match x with | .inl x => x.ok | .inr x => (MAl x.2.l.l)) (fun x => match x with | .inl x => Ow.emp | .inr x => Ow.star (Blk x.1 [x.2.l.val, x.2.by_.val] 139) (Ow.star (Sv.own x.2.l 34) (Mv.own x.2.by_ Tryz.prog 9 3 kStr kInt))) := by
 refine Ct.of Tryz.func12 rfl (by kernel_rfl) Tryz.ntmps12 (by simp) fun c => ?_
 unfold Sh.store_Load at hS
 refine Zq (Zr ?_)
 refine Za ?_
 refine Za ?_
 refine Zl ?_
 refine Zq (Zr ?_)
 refine Zm ?_
 obtain ⟨y14_1, ey14_1, hS⟩ := bd_s hS
 refine VL.callO (codec_Of_ct b_0 ey14_1) rfl (by decide) ?_
 rintro ⟨q14_1_0, q14_1_1⟩ rfl
 try dsimp only
 refine Za ?_
 refine Zl ?_
 refine Zq (Zr ?_)
 refine Zm ?_
 obtain ⟨y16_2, ey16_2, hS⟩ := bd_s hS
 refine VL.callO (codec_Dec_Int_ct q14_1_0 q14_1_1 ey16_2) rfl (by decide) ?_
 rintro ⟨q16_2_0, q16_2_1⟩ rfl
 try dsimp only
 refine Za ?_
 refine Zl ?_
 refine Zq ?_
 refine VC.cutJ (S := Bool) (fun (x22_3 : Bool) => x22_3) (fun (x22_3 : Bool) => [(4, ptr q14_1_0 0), (5, i64 q16_2_0), (22, .bool x22_3)]) (fun (x22_3 : Bool) => Mo.tt) (fun (x22_3 : Bool) => Ow.star (Blk q14_1_0 [q16_2_1.b.val, i64 q16_2_1.at_, q16_2_1.err.val] 233) (Ow.emp)) hS ?_ ?_
 ·
  clear hS
  intro k4 hS
  refine Zr ?_
  refine Zm ?_
  refine VL.q (q_lss rfl rfl) (by decide) ?_
  refine Zm ?_
  refine VL.split_dec 19 rfl (fun h19 => ?_) (fun h19 => ?_)
  ·
   replace hS := it_t h19 hS
   refine VL.runs 3 [(22, some true)] (by kernel_rfl) ?_
   refine VL.mt true [4, 5, 22] (fun _ _ h => h) hS rfl
  replace hS := it_f h19 hS
  refine Zg ?_
  refine VL.gy rfl rfl (q_gtr rfl rfl) (by decide) ?_
  refine Zf ?_
  refine VL.mt (decide (4096 < q16_2_0)) [4, 5, 22] (fun _ _ h => h) hS rfl
 clear hS
 rintro x22_3 hS
 show VC _ _ _ _ _ [(4, ptr q14_1_0 0), (5, i64 q16_2_0), (22, .bool x22_3)] (Mo.and Mo.tt _) (Ow.star (Blk q14_1_0 [q16_2_1.b.val, i64 q16_2_1.at_, q16_2_1.err.val] 233) (Ow.emp))
 refine VC.cond rfl (fun h22 => ?_) (fun h22 => ?_)
 ·
  replace hS := it_t h22 hS
  refine Zq (Zr ?_)
  refine VL.q (q_mkif Tryz.underlying131 (fun _ h => by cases h) rfl) (by decide) ?_
  refine Za ?_
  refine Za ?_
  refine Zl ?_
  cases hS
  exact VC.ret (fin2 (.inr rfl) rfl rfl rfl (.inl (Er.no 2)) rfl rfl (by (try dsimp only); exact InM.out) (by (try dsimp only); exact EntO.out))
 replace hS := it_b h22 hS
 refine Zk ?_
 refine Zq (Zr ?_)
 obtain ⟨y24_5, ey24_5, hS⟩ := bd_s hS
 refine VL.callO (store_New_ct ey24_5) rfl (by decide) ?_
 rintro ⟨q24_5_0, q24_5_1⟩ rfl
 try dsimp only
 refine Za ?_
 refine Zl ?_
 refine VC.cutJ (S := Sv ObjectObject × Mv Str Int × Sv UInt8 × Int × Er) (fun sg => ((sg.1.l.map ObjectObject.pl), sg.2.1.l, sg.2.2.1.l, sg.2.2.2.1, sg.2.2.2.2.pl)) (fun sg => [(4, ptr q14_1_0 0), (6, ptr q24_5_0 0)]) (fun sg => ((MAl sg.1.l).and (sg.2.2.1.ok.and sg.2.2.2.2.ok))) (fun sg => Ow.star (Blk q24_5_0 [sg.1.val, sg.2.1.val] 139) (Ow.star (Blk q14_1_0 [sg.2.2.1.val, i64 sg.2.2.2.1, sg.2.2.2.2.val] 233) (Ow.star (Sv.own sg.1 34) (Ow.star (Mv.own sg.2.1 Tryz.prog 9 3 kStr kInt) (Ow.emp))))) hS ?_ ?_
 ·
  clear hS
  intro k11 hS
  refine Zq (Zr ?_)
  refine Zm ?_
  refine Zm ?_
  refine Zl ?_
  refine Zb ?_
  refine VC.iter (S := Int × Sv ObjectObject × Mv Str Int × Sv UInt8 × Int × Er) (fun sg => (sg.1, (sg.2.1.l.map ObjectObject.pl), sg.2.2.1.l, sg.2.2.2.1.l, sg.2.2.2.2.1, sg.2.2.2.2.2.pl)) (fun sg => [(4, ptr q14_1_0 0), (6, ptr q24_5_0 0), (25, i64 q16_2_0), (26, i64 sg.1)]) (fun sg => ((MAl sg.2.1.l).and (sg.2.2.2.1.ok.and sg.2.2.2.2.2.ok))) (fun sg => Ow.star (Blk q24_5_0 [sg.2.1.val, sg.2.2.1.val] 139) (Ow.star (Blk q14_1_0 [sg.2.2.2.1.val, i64 sg.2.2.2.2.1, sg.2.2.2.2.2.val] 233) (Ow.star (Sv.own sg.2.1 34) (Ow.star (Mv.own sg.2.2.1 Tryz.prog 9 3 kStr kInt) (Ow.emp))))) (0, q24_5_1.l, q24_5_1.by_, q16_2_1.b, q16_2_1.at_, q16_2_1.err) [4, 6, 25, 26] hS rfl ?_
  clear hS
  rintro ⟨x26_12, c0_13, c1_14, c0_15, c1_16, c2_17⟩ m1 y1 hS hK1
  show VC _ _ _ _ _ [(4, ptr q14_1_0 0), (6, ptr q24_5_0 0), (25, i64 q16_2_0), (26, i64 x26_12)] (Mo.and ((MAl c0_13.l).and (c0_15.ok.and c2_17.ok)) _) (Ow.star (Blk q24_5_0 [c0_13.val, c1_14.val] 139) (Ow.star (Blk q14_1_0 [c0_15.val, i64 c1_16, c2_17.val] 233) (Ow.star (Sv.own c0_13 34) (Ow.star (Mv.own c1_14 Tryz.prog 9 3 kStr kInt) (Ow.emp)))))
  refine Zq (Zr ?_)
  refine VL.q (q_lss rfl rfl) (by decide) ?_
  refine Zl ?_
  refine Zq ?_
  refine VC.cond_dec rfl (fun h27 => ?_) (fun h27 => ?_)
  ·
   replace hS := it_t h27 hS
   refine Zk ?_
   refine Zq (Zb (Zq (Zr ?_)))
   refine Zm ?_
   refine Za ?_
   refine Zl ?_
   refine Zq (Zr ?_)
   refine Zm ?_
   obtain ⟨y31_18, ey31_18, hS⟩ := bd_s hS
   refine VL.callO (codec_Dec_Text_ct q14_1_0 (⟨c0_15, c1_16, c2_17⟩ : CodecDec) ey31_18) rfl (by decide) ?_
   rintro ⟨q31_18_0, q31_18_1⟩ rfl
   try dsimp only
   obtain ⟨b32, hS⟩ := gd_s hS
   refine VL.s2b Tryz.underlying9 Tryz.underlying22 Tryz.underlying5 rfl b32 (by decide) fun s32_19 hs32_19 => ?_
   replace hS := lt_to hs32_19 hS
   obtain ⟨y33_21, ey33_21, hS⟩ := bd_s hS
   refine VL.callF (object_Decode_ct s32_19 ey33_21) rfl (by decide) ?_
   rintro ⟨q33_21_0, q33_21_1⟩ rfl
   try dsimp only
   refine Zm ?_
   refine VL.q (q_extract rfl rfl) (by decide) ?_
   refine VL.q (q_extract rfl rfl) (by decide) ?_
   refine VL.alloc (cs := [i64 0, .slice none 0 0, .slice none 0 0, i64 0, .slice none 0 0, i64 0, str []]) (by kernel_rfl) (by decide) fun b8_22 => ?_
   refine VL.store (vc := [i64 q33_21_0.kind, q33_21_0.data.val, q33_21_0.items.val, i64 q33_21_0.tree, q33_21_0.parents.val, i64 q33_21_0.time, str q33_21_0.text]) (cs' := [i64 q33_21_0.kind, q33_21_0.data.val, q33_21_0.items.val, i64 q33_21_0.tree, q33_21_0.parents.val, i64 q33_21_0.time, str q33_21_0.text]) rfl rfl rfl gsz34 rfl rfl (Nat.le_of_ble_eq_true rfl) rfl ?_
   refine Za ?_
   refine Zl ?_
   refine VC.keep (ρ' := [(4, ptr q14_1_0 0), (6, ptr q24_5_0 0), (25, i64 q16_2_0), (26, i64 x26_12), (7, i64 x26_12), (8, ptr b8_22 0), (9, q33_21_1.val)]) [4, 6, 25, 26, 7, 8, 9] rfl ?_
   refine Zq (Zq (Zr ?_))
   refine Zm ?_
   obtain ⟨y37_23, ey37_23, hS⟩ := bd_s hS
   refine VL.callO (codec_Dec_Err_ct q14_1_0 q31_18_1 ey37_23) rfl (by decide) ?_
   rintro q37_23_0 rfl
   try dsimp only
   refine VL.q (q_erne Tryz.underlying26 rfl) (by decide) ?_
   refine Zl ?_
   refine VC.cond_ndec rfl (fun h38 => ?_) (fun h38 => ?_)
   ·
    replace hS := it_f h38 hS
    replace hS := up2 hS hK1
    refine VC.exit_mt (c0_13, c1_14, q31_18_1.b, q31_18_1.at_, q31_18_1.err) [4, 6] (fun _ _ h => h) hS rfl
   replace hS := it_t h38 hS
   refine Zk ?_
   refine Zq (Zq (Zr ?_))
   refine Zm ?_
   refine VL.q (q_erne Tryz.underlying26 rfl) (by decide) ?_
   refine Zl ?_
   refine VC.cond_ndec rfl (fun h40 => ?_) (fun h40 => ?_)
   ·
    replace hS := it_f h40 hS
    refine Zq (Zr ?_)
    refine Zm ?_
    refine Za ?_
    refine Za ?_
    refine Zl ?_
    refine VC.keep (ρ' := [(2, .pointer none), (3, q33_21_1.val)]) [2, 3] rfl ?_
    replace hS := up2 hS hK1
    cases hS
    exact VC.ret (fin2 (.inr rfl) rfl rfl rfl (.inl q33_21_1) rfl rfl (by (try dsimp only); exact InM.out) (by (try dsimp only); exact EntO.out))
   replace hS := it_t h40 hS
   refine Zk ?_
   refine Zq (Zr ?_)
   refine Zm ?_
   refine VL.q (q_fes gagg34 rfl rfl) (by decide) ?_
   obtain ⟨y45_24, ey45_24, hS⟩ := bd_s hS
   refine VL.callO (store_Store_Put_ct q24_5_0 (⟨c0_13, c1_14⟩ : StoreStore) q33_21_0 ey45_24) rfl (by decide) ?_
   rintro ⟨q45_24_0, q45_24_1, q45_24_2⟩ rfl
   try dsimp only
   refine Zm ?_
   refine VL.q (q_extract rfl rfl) (by decide) ?_
   refine VL.q (q_extract rfl rfl) (by decide) ?_
   refine Za ?_
   refine Za ?_
   refine Zl ?_
   refine VC.keep (ρ' := [(4, ptr q14_1_0 0), (6, ptr q24_5_0 0), (25, i64 q16_2_0), (26, i64 x26_12), (7, i64 x26_12), (10, i64 q45_24_0), (11, q45_24_1.val)]) [4, 6, 25, 26, 7, 10, 11] rfl ?_
   refine VC.cutJ (S := Bool) (fun (x55_25 : Bool) => x55_25) (fun (x55_25 : Bool) => [(4, ptr q14_1_0 0), (6, ptr q24_5_0 0), (25, i64 q16_2_0), (26, i64 x26_12), (55, .bool x55_25)]) (fun (x55_25 : Bool) => Mo.tt) (fun (x55_25 : Bool) => Ow.star (Blk q24_5_0 [q45_24_2.l.val, q45_24_2.by_.val] 139) (Ow.star (Blk b8_22 [i64 q33_21_0.kind, q33_21_0.data.val, q33_21_0.items.val, i64 q33_21_0.tree, q33_21_0.parents.val, i64 q33_21_0.time, str q33_21_0.text] 34) (Ow.star (Blk q14_1_0 [q31_18_1.b.val, i64 q31_18_1.at_, q31_18_1.err.val] 233) (Ow.star (Mv.own q45_24_2.by_ Tryz.prog 9 3 kStr kInt) (Ow.star (Sv.own q45_24_2.l 34) (Ow.emp)))))) hS ?_ ?_
   ·
    clear hS
    intro k26 hS
    refine Zr ?_
    refine Zm ?_
    refine VL.q (q_erne Tryz.underlying26 rfl) (by decide) ?_
    refine Zm ?_
    refine VL.split_ndec 50 rfl (fun h50 => ?_) (fun h50 => ?_)
    ·
     replace hS := it_f h50 hS
     refine VL.runs 5 [(55, some true)] (by kernel_rfl) ?_
     refine VL.mt true [4, 6, 25, 26, 55] (fun _ _ h => h) hS rfl
    replace hS := it_t h50 hS
    refine Zg ?_
    refine Zg ?_
    obtain ⟨b53, hS⟩ := gd_s hS
    refine VL.gy rfl rfl (q_add rfl rfl b53) (by decide) ?_
    refine VL.gy rfl rfl (q_neq rfl rfl) (by decide) ?_
    refine Zf ?_
    refine VL.mt (!decide (q45_24_0 = (x26_12 + 1))) [4, 6, 25, 26, 55] (fun _ _ h => h) hS rfl
   clear hS
   rintro x55_25 hS
   show VC _ _ _ _ _ [(4, ptr q14_1_0 0), (6, ptr q24_5_0 0), (25, i64 q16_2_0), (26, i64 x26_12), (55, .bool x55_25)] (Mo.and Mo.tt _) (Ow.star (Blk q24_5_0 [q45_24_2.l.val, q45_24_2.by_.val] 139) (Ow.star (Blk b8_22 [i64 q33_21_0.kind, q33_21_0.data.val, q33_21_0.items.val, i64 q33_21_0.tree, q33_21_0.parents.val, i64 q33_21_0.time, str q33_21_0.text] 34) (Ow.star (Blk q14_1_0 [q31_18_1.b.val, i64 q31_18_1.at_, q31_18_1.err.val] 233) (Ow.star (Mv.own q45_24_2.by_ Tryz.prog 9 3 kStr kInt) (Ow.star (Sv.own q45_24_2.l 34) (Ow.emp))))))
   refine VC.cond rfl (fun h55 => ?_) (fun h55 => ?_)
   ·
    replace hS := it_t h55 hS
    refine Zq (Zr ?_)
    refine VL.q (q_mkif Tryz.underlying131 (fun _ h => by cases h) rfl) (by decide) ?_
    refine Za ?_
    refine Za ?_
    refine Zl ?_
    replace hS := up2 hS hK1
    cases hS
    exact VC.ret (fin2 (.inr rfl) rfl rfl rfl (.inl (Er.no 2)) rfl rfl (by (try dsimp only); exact InM.out) (by (try dsimp only); exact EntO.out))
   replace hS := it_b h55 hS
   refine Zk ?_
   refine Zr ?_
   obtain ⟨b57, hS⟩ := gd_s hS
   refine VL.q (q_add rfl rfl b57) (by decide) ?_
   refine Zm ?_
   refine VL.rnd ((x26_12 + 1), q45_24_2.l, q45_24_2.by_, q31_18_1.b, q31_18_1.at_, q31_18_1.err) [4, 6, 25, 26] (fun _ _ h => h) (go2 hS hK1) rfl
  replace hS := it_f h27 hS
  replace hS := up2 hS hK1
  refine VC.exit_mt (c0_13, c1_14, c0_15, c1_16, c2_17) [4, 6] (fun _ _ h => h) hS rfl
 clear hS
 rintro ⟨c0_6, c1_7, c0_8, c1_9, c2_10⟩ hS
 show VC _ _ _ _ _ [(4, ptr q14_1_0 0), (6, ptr q24_5_0 0)] (Mo.and ((MAl c0_6.l).and (c0_8.ok.and c2_10.ok)) _) (Ow.star (Blk q24_5_0 [c0_6.val, c1_7.val] 139) (Ow.star (Blk q14_1_0 [c0_8.val, i64 c1_9, c2_10.val] 233) (Ow.star (Sv.own c0_6 34) (Ow.star (Mv.own c1_7 Tryz.prog 9 3 kStr kInt) (Ow.emp)))))
 refine Zq (Zq (Zr ?_))
 refine Zm ?_
 obtain ⟨y59_27, ey59_27, hS⟩ := bd_s hS
 refine VL.callO (codec_Dec_Err_ct q14_1_0 (⟨c0_8, c1_9, c2_10⟩ : CodecDec) ey59_27) rfl (by decide) ?_
 rintro q59_27_0 rfl
 try dsimp only
 refine Za ?_
 refine Zl ?_
 refine Zq (Zr ?_)
 refine Zm ?_
 refine VL.q (q_erne Tryz.underlying26 rfl) (by decide) ?_
 refine Zl ?_
 refine VC.cond_ndec rfl (fun h61 => ?_) (fun h61 => ?_)
 ·
  replace hS := it_f h61 hS
  refine Zq (Zr ?_)
  refine Zm ?_
  refine Za ?_
  refine Za ?_
  refine Zl ?_
  cases hS
  exact VC.ret (fin2 (.inr rfl) rfl rfl rfl (.inl q59_27_0) rfl rfl (by (try dsimp only); exact InM.out) (by (try dsimp only); exact EntO.out))
 replace hS := it_t h61 hS
 refine Zk ?_
 refine Zq (Zq (Zr ?_))
 refine Zm ?_
 obtain ⟨y64_28, ey64_28, hS⟩ := bd_s hS
 refine VL.q (q_callR (codec_Dec_Left_ct q14_1_0 (⟨c0_8, c1_9, c2_10⟩ : CodecDec) ey64_28) rfl (fun _ _ => rfl)) (by decide) ?_
 refine VL.q (q_gtr rfl rfl) (by decide) ?_
 refine Zl ?_
 refine VC.cond_dec rfl (fun h65 => ?_) (fun h65 => ?_)
 ·
  replace hS := it_t h65 hS
  refine Zq (Zr ?_)
  refine VL.q (q_mkif Tryz.underlying131 (fun _ h => by cases h) rfl) (by decide) ?_
  refine Za ?_
  refine Za ?_
  refine Zl ?_
  refine VC.keep (ρ' := [(2, .pointer none), (3, (Er.no 2).val)]) [2, 3] rfl ?_
  cases hS
  exact VC.ret (fin2 (.inr rfl) rfl rfl rfl (.inl (Er.no 2)) rfl rfl (by (try dsimp only); exact InM.out) (by (try dsimp only); exact EntO.out))
 replace hS := it_f h65 hS
 refine Zk ?_
 refine Zq (Zr ?_)
 refine Zm ?_
 refine Za ?_
 refine Za ?_
 refine Zl ?_
 refine VC.keep (ρ' := [(2, ptr q24_5_0 0), (3, .nilIface)]) [2, 3] rfl ?_
 cases hS
 exact VC.ret (fin2 (.inr rfl) rfl rfl rfl (.inr (q24_5_0, ⟨c0_6, c1_7⟩)) rfl rfl (by (try dsimp only); exact InM.out) (by (try dsimp only); exact EntO.out))
theorem slices_Equal_object_Item_object_Item_ct (s1_0 : Sv ObjectItem) (s2_1 : Sv ObjectItem) {r : Bool} (hS : Sh.slices_Equal_object_Item_object_Item s1_0.l s2_1.l = some r) :
 Ct Tryz.prog 121 [s1_0.val, s2_1.val] (s1_0.ok.and s2_1.ok) (Ow.emp) (X := Unit) (fun _ => .bool r) (fun _ => True) (fun _ => Mo.tt) (fun _ => Ow.emp) := by
 refine Ct.of Tryz.func121 rfl (by kernel_rfl) Tryz.ntmps121 (by simp) fun c => ?_
 unfold Sh.slices_Equal_object_Item_object_Item at hS
 refine Zq (Zr ?_)
 refine Za ?_
 refine Zl ?_
 refine Zq (Zq (Zr ?_))
 refine Zm ?_
 refine VL.q (q_ln (s := s1_0) Tryz.underlying31 rfl) (by decide) ?_
 refine Zm ?_
 refine VL.q (q_ln (s := s2_1) Tryz.underlying31 rfl) (by decide) ?_
 refine VL.q (q_neq rfl rfl) (by decide) ?_
 refine Zl ?_
 refine VC.cond_ndec rfl (fun h10 => ?_) (fun h10 => ?_)
 ·
  replace hS := it_f h10 hS
  refine Zq (Zr ?_)
  refine Za ?_
  refine Zl ?_
  cases hS
  exact Ze
 replace hS := it_t h10 hS
 refine Zk ?_
 refine Zq (Zq (Zr ?_))
 refine Zm ?_
 refine VL.q (q_ln (s := s1_0) Tryz.underlying31 rfl) (by decide) ?_
 refine Zm ?_
 refine Zl ?_
 refine VC.keep (ρ' := [(0, s1_0.val), (1, s2_1.val), (12, i64 (s1_0.l.length : Int)), (13, i64 0)]) [0, 1, 12, 13] rfl ?_
 refine Zb ?_
 refine VC.iter (S := Int) (fun (x13_1 : Int) => x13_1) (fun (x13_1 : Int) => [(0, s1_0.val), (1, s2_1.val), (12, i64 (s1_0.l.length : Int)), (13, i64 x13_1)]) (fun (x13_1 : Int) => Mo.tt) (fun (x13_1 : Int) => Ow.emp) 0 [0, 1, 12, 13] hS rfl ?_
 clear hS
 rintro x13_1 m1 y1 hS hK1
 show VC _ _ _ _ _ [(0, s1_0.val), (1, s2_1.val), (12, i64 (s1_0.l.length : Int)), (13, i64 x13_1)] (Mo.and Mo.tt _) (Ow.emp)
 refine Zq (Zr ?_)
 refine VL.q (q_lss rfl rfl) (by decide) ?_
 refine Zl ?_
 refine Zq ?_
 refine VC.cond_dec rfl (fun h14 => ?_) (fun h14 => ?_)
 ·
  replace hS := it_t h14 hS
  refine Zk ?_
  refine Zq (Zb (Zq (Zr ?_)))
  refine Zm ?_
  refine Za ?_
  refine Zl ?_
  refine Zq ?_
  refine VC.draw ((List.range 9).map fun k => (k, true)) mixed (by kernel_rfl) (by kernel_rfl) (by kernel_rfl) ?_
  refine VD.q rfl (q_move rfl) (by decide) ?_
  refine VD.q rfl (q_move rfl) (by decide) ?_
  obtain ⟨z18_2, nz18_2, hz18_2, hS⟩ := at_s hS
  refine VD.q rfl (q_ixm (s := s1_0) Tryz.underlying31 gsz124 rfl rfl nz18_2 (lt_of_get nz18_2 hz18_2)) (by decide) ?_
  refine VD.q rfl (q_els (s := s1_0) gagg124 rfl rfl hz18_2) (by decide) ?_
  refine VD.q rfl (q_move rfl) (by decide) ?_
  refine VD.q rfl (q_move rfl) (by decide) ?_
  obtain ⟨z22_3, nz22_3, hz22_3, hS⟩ := at_s hS
  refine VD.q rfl (q_ixm (s := s2_1) Tryz.underlying31 gsz124 rfl rfl nz22_3 (lt_of_get nz22_3 hz22_3)) (by decide) ?_
  refine VD.q rfl (q_els (s := s2_1) gagg124 rfl rfl hz22_3) (by decide) ?_
  refine VD.q rfl (q_stneq geqg124 (geqs124 z18_2.path z18_2.mode z18_2.blob z22_3.path z22_3.mode z22_3.blob) rfl rfl) (by decide) ?_
  refine VD.to (fun _ _ h => h) ?_
  refine VC.keep (ρ' := [(0, s1_0.val), (1, s2_1.val), (12, i64 (s1_0.l.length : Int)), (13, i64 x13_1), (24, .bool (!decide (z18_2.path = z22_3.path ∧ z18_2.mode = z22_3.mode ∧ z18_2.blob = z22_3.blob)))]) [0, 1, 12, 13, 24] rfl ?_
  refine VC.cond_ndec rfl (fun h24 => ?_) (fun h24 => ?_)
  ·
   replace hS := it_f h24 hS
   refine Zq (Zr ?_)
   refine Za ?_
   refine Zl ?_
   replace hS := up2 hS hK1
   cases hS
   exact Ze
  replace hS := it_t h24 hS
  refine Zk ?_
  refine Zr ?_
  obtain ⟨b25, hS⟩ := gd_s hS
  refine VL.q (q_add rfl rfl b25) (by decide) ?_
  refine Zm ?_
  refine VL.rnd (x13_1 + 1) [0, 1, 12, 13] (fun _ _ h => h) (go2 hS hK1) rfl
 replace hS := it_f h14 hS
 replace hS := up2 hS hK1
 refine Zx ?_
 refine Zq (Zr ?_)
 refine Za ?_
 refine Zl ?_
 cases hS
 exact Ze
theorem slices_Equal_int_int_ct (s1_0 : Sv Int) (s2_1 : Sv Int) {r : Bool} (hS : Sh.slices_Equal_int_int s1_0.l s2_1.l = some r) :
 Ct Tryz.prog 122 [s1_0.val, s2_1.val] (s1_0.ok.and s2_1.ok) (Ow.emp) (X := Unit) (fun _ => .bool r) (fun _ => True) (fun _ => Mo.tt) (fun _ => Ow.emp) := by
 refine Ct.of Tryz.func122 rfl (by kernel_rfl) Tryz.ntmps122 (by simp) fun c => ?_
 unfold Sh.slices_Equal_int_int at hS
 refine Zq (Zr ?_)
 refine Za ?_
 refine Zl ?_
 refine Zq (Zq (Zr ?_))
 refine Zm ?_
 refine VL.q (q_ln (s := s1_0) Tryz.underlying32 rfl) (by decide) ?_
 refine Zm ?_
 refine VL.q (q_ln (s := s2_1) Tryz.underlying32 rfl) (by decide) ?_
 refine VL.q (q_neq rfl rfl) (by decide) ?_
 refine Zl ?_
 refine VC.cond_ndec rfl (fun h10 => ?_) (fun h10 => ?_)
 ·
  replace hS := it_f h10 hS
  refine Zq (Zr ?_)
  refine Za ?_
  refine Zl ?_
  cases hS
  exact Ze
 replace hS := it_t h10 hS
 refine Zk ?_
 refine Zq (Zq (Zr ?_))
 refine Zm ?_
 refine VL.q (q_ln (s := s1_0) Tryz.underlying32 rfl) (by decide) ?_
 refine Zm ?_
 refine Zl ?_
 refine VC.keep (ρ' := [(0, s1_0.val), (1, s2_1.val), (12, i64 (s1_0.l.length : Int)), (13, i64 0)]) [0, 1, 12, 13] rfl ?_
 refine Zb ?_
 refine VC.iter (S := Int) (fun (x13_1 : Int) => x13_1) (fun (x13_1 : Int) => [(0, s1_0.val), (1, s2_1.val), (12, i64 (s1_0.l.length : Int)), (13, i64 x13_1)]) (fun (x13_1 : Int) => Mo.tt) (fun (x13_1 : Int) => Ow.emp) 0 [0, 1, 12, 13] hS rfl ?_
 clear hS
 rintro x13_1 m1 y1 hS hK1
 show VC _ _ _ _ _ [(0, s1_0.val), (1, s2_1.val), (12, i64 (s1_0.l.length : Int)), (13, i64 x13_1)] (Mo.and Mo.tt _) (Ow.emp)
 refine Zq (Zr ?_)
 refine VL.q (q_lss rfl rfl) (by decide) ?_
 refine Zl ?_
 refine Zq ?_
 refine VC.cond_dec rfl (fun h14 => ?_) (fun h14 => ?_)
 ·
  replace hS := it_t h14 hS
  refine Zk ?_
  refine Zq (Zb (Zq (Zr ?_)))
  refine Zm ?_
  refine Za ?_
  refine Zl ?_
  refine Zq ?_
  refine VC.draw ((List.range 9).map fun k => (k, true)) mixed (by kernel_rfl) (by kernel_rfl) (by kernel_rfl) ?_
  refine VD.q rfl (q_move rfl) (by decide) ?_
  refine VD.q rfl (q_move rfl) (by decide) ?_
  obtain ⟨z18_2, nz18_2, hz18_2, hS⟩ := at_s hS
  refine VD.q rfl (q_ixm (s := s1_0) Tryz.underlying32 gsz3 rfl rfl nz18_2 (lt_of_get nz18_2 hz18_2)) (by decide) ?_
  refine VD.q rfl (q_el (s := s1_0) gone3 rfl hz18_2 rfl) (by decide) ?_
  refine VD.q rfl (q_move rfl) (by decide) ?_
  refine VD.q rfl (q_move rfl) (by decide) ?_
  obtain ⟨z22_3, nz22_3, hz22_3, hS⟩ := at_s hS
  refine VD.q rfl (q_ixm (s := s2_1) Tryz.underlying32 gsz3 rfl rfl nz22_3 (lt_of_get nz22_3 hz22_3)) (by decide) ?_
  refine VD.q rfl (q_el (s := s2_1) gone3 rfl hz22_3 rfl) (by decide) ?_
  refine VD.q rfl (q_neq rfl rfl) (by decide) ?_
  refine VD.to (fun _ _ h => h) ?_
  refine VC.keep (ρ' := [(0, s1_0.val), (1, s2_1.val), (12, i64 (s1_0.l.length : Int)), (13, i64 x13_1), (24, .bool (!decide (z18_2 = z22_3)))]) [0, 1, 12, 13, 24] rfl ?_
  refine VC.cond_ndec rfl (fun h24 => ?_) (fun h24 => ?_)
  ·
   replace hS := it_f h24 hS
   refine Zq (Zr ?_)
   refine Za ?_
   refine Zl ?_
   replace hS := up2 hS hK1
   cases hS
   exact Ze
  replace hS := it_t h24 hS
  refine Zk ?_
  refine Zr ?_
  obtain ⟨b25, hS⟩ := gd_s hS
  refine VL.q (q_add rfl rfl b25) (by decide) ?_
  refine Zm ?_
  refine VL.rnd (x13_1 + 1) [0, 1, 12, 13] (fun _ _ h => h) (go2 hS hK1) rfl
 replace hS := it_f h14 hS
 replace hS := up2 hS hK1
 refine Zx ?_
 refine Zq (Zr ?_)
 refine Za ?_
 refine Zl ?_
 cases hS
 exact Ze
theorem object_Same_ct (a_0 : ObjectObject) (b_1 : ObjectObject) {r : Bool} (hS : Sh.object_Same a_0.pl b_1.pl = some r) :
 Ct Tryz.prog 48 [.agg #[i64 a_0.kind, a_0.data.val, a_0.items.val, i64 a_0.tree, a_0.parents.val, i64 a_0.time, str a_0.text], .agg #[i64 b_1.kind, b_1.data.val, b_1.items.val, i64 b_1.tree, b_1.parents.val, i64 b_1.time, str b_1.text]] (a_0.data.ok.and (a_0.items.ok.and (a_0.parents.ok.and (b_1.data.ok.and (b_1.items.ok.and b_1.parents.ok))))) (Ow.emp) (X := Unit) (fun _ => .bool r) (fun _ => True) (fun _ => Mo.tt) (fun _ => Ow.emp) := by
 refine Ct.of Tryz.func48 rfl (by kernel_rfl) Tryz.ntmps48 (by simp) fun c => ?_
 unfold Sh.object_Same at hS
 refine Zq (Zr ?_)
 refine VL.box (cs := [i64 a_0.kind, a_0.data.val, a_0.items.val, i64 a_0.tree, a_0.parents.val, i64 a_0.time, str a_0.text]) rfl rfl (by decide) fun b2_1 => ?_
 refine VL.box (cs := [i64 b_1.kind, b_1.data.val, b_1.items.val, i64 b_1.tree, b_1.parents.val, i64 b_1.time, str b_1.text]) rfl rfl (by decide) fun b3_2 => ?_
 refine Za ?_
 refine Zl ?_
 refine Zq (Zq (Zr ?_))
 refine VL.q (q_field gfa34_0 rfl) (by decide) ?_
 refine VL.q (q_fe gone3 rfl rfl) (by decide) ?_
 refine VL.q (q_field gfa34_0 rfl) (by decide) ?_
 refine VL.q (q_fe gone3 rfl rfl) (by decide) ?_
 refine VL.q (q_neq rfl rfl) (by decide) ?_
 refine Zl ?_
 refine VC.cond_ndec rfl (fun h9 => ?_) (fun h9 => ?_)
 ·
  replace hS := it_f h9 hS
  refine Zq (Zr ?_)
  refine Za ?_
  refine Zl ?_
  cases hS
  exact Ze
 replace hS := it_t h9 hS
 refine Zk ?_
 refine Zq (Zq (Zr ?_))
 refine VL.q (q_field gfa34_0 rfl) (by decide) ?_
 refine VL.q (q_fe gone3 rfl rfl) (by decide) ?_
 refine Zl ?_
 refine VC.keep (ρ' := [(2, ptr b2_1 0), (3, ptr b3_2 0), (11, i64 a_0.kind)]) [2, 3, 11] rfl ?_
 refine Zb (Zq (Zr ?_))
 refine VL.q (q_eql rfl rfl) (by decide) ?_
 refine Za ?_
 refine Zl ?_
 refine VC.cond_dec rfl (fun h12 => ?_) (fun h12 => ?_)
 ·
  replace hS := it_t h12 hS
  refine Zq (Zr ?_)
  refine VL.q (q_field gfa34_1 rfl) (by decide) ?_
  refine VL.q (q_fe gone22 rfl rfl) (by decide) ?_
  refine VL.q (q_field gfa34_1 rfl) (by decide) ?_
  refine VL.q (q_fe gone22 rfl rfl) (by decide) ?_
  obtain ⟨y18_3, ey18_3, hS⟩ := bd_s hS
  refine VL.q (q_call (bytes_Equal_ct a_0.data b_1.data ey18_3) rfl (fun _ _ => rfl)) (by decide) ?_
  refine Za ?_
  refine Zl ?_
  refine VC.keep (ρ' := [(4, .bool y18_3)]) [4] rfl ?_
  cases hS
  exact Ze
 replace hS := it_f h12 hS
 refine Zq (Zr ?_)
 refine VL.q (q_eql rfl rfl) (by decide) ?_
 refine Za ?_
 refine Zl ?_
 refine VC.cond_dec rfl (fun h19 => ?_) (fun h19 => ?_)
 ·
  replace hS := it_t h19 hS
  refine Zq (Zr ?_)
  refine VL.q (q_field gfa34_2 rfl) (by decide) ?_
  refine VL.q (q_fe gone31 rfl rfl) (by decide) ?_
  refine VL.q (q_field gfa34_2 rfl) (by decide) ?_
  refine VL.q (q_fe gone31 rfl rfl) (by decide) ?_
  obtain ⟨y25_4, ey25_4, hS⟩ := bd_s hS
  refine VL.q (q_call (slices_Equal_object_Item_object_Item_ct a_0.items b_1.items ey25_4) rfl (fun _ _ => rfl)) (by decide) ?_
  refine Za ?_
  refine Zl ?_
  refine VC.keep (ρ' := [(4, .bool y25_4)]) [4] rfl ?_
  cases hS
  exact Ze
 replace hS := it_f h19 hS
 refine Zq (Zr ?_)
 refine VL.q (q_eql rfl rfl) (by decide) ?_
 refine Za ?_
 refine Zl ?_
 refine VC.cond_dec rfl (fun h26 => ?_) (fun h26 => ?_)
 ·
  replace hS := it_t h26 hS
  refine Zq (Zr ?_)
  refine VL.q (q_field gfa34_3 rfl) (by decide) ?_
  refine VL.q (q_fe gone3 rfl rfl) (by decide) ?_
  refine VL.q (q_field gfa34_3 rfl) (by decide) ?_
  refine VL.q (q_fe gone3 rfl rfl) (by decide) ?_
  refine VL.q (q_eql rfl rfl) (by decide) ?_
  refine Zm ?_
  refine VL.split_dec 33 rfl (fun h33 => ?_) (fun h33 => ?_)
  ·
   replace hS := it_t h33 hS
   refine VL.gy rfl rfl (q_field gfa34_4 rfl) (by decide) ?_
   refine VL.gy rfl rfl (q_fe gone32 rfl rfl) (by decide) ?_
   refine VL.gy rfl rfl (q_field gfa34_4 rfl) (by decide) ?_
   refine VL.gy rfl rfl (q_fe gone32 rfl rfl) (by decide) ?_
   obtain ⟨y38_5, ey38_5, hS⟩ := bd_s hS
   refine VL.gy rfl rfl (q_call (slices_Equal_int_int_ct a_0.parents b_1.parents ey38_5) rfl (fun _ _ => rfl)) (by decide) ?_
   refine Zt ?_
   refine Zm ?_
   refine VL.split 40 rfl (fun h40 => ?_) (fun h40 => ?_)
   ·
    replace hS := it_t h40 hS
    refine VL.gy rfl rfl (q_field gfa34_5 rfl) (by decide) ?_
    refine VL.gy rfl rfl (q_fe gone3 rfl rfl) (by decide) ?_
    refine VL.gy rfl rfl (q_field gfa34_5 rfl) (by decide) ?_
    refine VL.gy rfl rfl (q_fe gone3 rfl rfl) (by decide) ?_
    refine VL.gy rfl rfl (q_eql rfl rfl) (by decide) ?_
    refine Zt ?_
    refine Zm ?_
    refine VL.split_dec 47 rfl (fun h47 => ?_) (fun h47 => ?_)
    ·
     replace hS := it_t h47 hS
     refine VL.gy rfl rfl (q_field gfa34_6 rfl) (by decide) ?_
     refine VL.gy rfl rfl (q_fe gone9 rfl rfl) (by decide) ?_
     refine VL.gy rfl rfl (q_field gfa34_6 rfl) (by decide) ?_
     refine VL.gy rfl rfl (q_fe gone9 rfl rfl) (by decide) ?_
     refine VL.gy rfl rfl (q_seq rfl rfl) (by decide) ?_
     refine Zt ?_
     refine Za ?_
     refine Zl ?_
     refine VC.keep (ρ' := [(4, .bool (decide (a_0.text = b_1.text)))]) [4] rfl ?_
     cases hS
     exact Ze
    replace hS := it_f h47 hS
    refine VL.runs 7 [(4, some false)] (by kernel_rfl) ?_
    refine Zl ?_
    refine VC.keep (ρ' := [(4, .bool false)]) [4] rfl ?_
    cases hS
    exact Ze
   replace hS := it_b h40 hS
   refine VL.runs 14 [(4, some false)] (by kernel_rfl) ?_
   refine Zl ?_
   refine VC.keep (ρ' := [(4, .bool false)]) [4] rfl ?_
   cases hS
   exact Ze
  replace hS := it_f h33 hS
  refine VL.runs 21 [(4, some false)] (by kernel_rfl) ?_
  refine Zl ?_
  refine VC.keep (ρ' := [(4, .bool false)]) [4] rfl ?_
  cases hS
  exact Ze
 replace hS := it_f h26 hS
 refine Zk ?_
 refine Zq (Zr ?_)
 refine Za ?_
 refine Zl ?_
 cases hS
 exact Ze
theorem store_Store_Len_ct (s_0_b : Nat) (s_0 : StoreStore) {r : Int} (hS : Sh.store_Store_Len s_0.pl = some r) :
 Ct Tryz.prog 13 [ptr s_0_b 0] (MAl s_0.l.l) (Ow.star (Sv.own s_0.l 34) (Ow.star (Mv.own s_0.by_ Tryz.prog 9 3 kStr kInt) (Blk s_0_b [s_0.l.val, s_0.by_.val] 139))) (X := Unit) (fun _ => i64 r) (fun _ => True) (fun _ => Mo.tt) (fun _ => Ow.star (Blk s_0_b [s_0.l.val, s_0.by_.val] 139) (Ow.star (Sv.own s_0.l 34) (Mv.own s_0.by_ Tryz.prog 9 3 kStr kInt))) := by
 refine Ct.of Tryz.func13 rfl (by kernel_rfl) Tryz.ntmps13 (by simp) fun c => ?_
 unfold Sh.store_Store_Len at hS
 refine Zq (Zr ?_)
 refine Za ?_
 refine Zl ?_
 refine Zq (Zr ?_)
 refine Zm ?_
 refine VL.q (q_nilCheck rfl) (by decide) ?_
 refine VL.q (q_field gfa139_0 rfl) (by decide) ?_
 refine VL.q (q_fe gone136 rfl rfl) (by decide) ?_
 refine VL.q (q_lnm ObjectObject.pl (s := s_0.l) Tryz.underlying136 rfl) (by decide) ?_
 refine Za ?_
 refine Zl ?_
 cases hS
 exact VC.ret (fin1 (.inr rfl) rfl rfl () rfl trivial (fun _ _ => trivial) (by (try dsimp only); exact EntO.out))
theorem rectolaw8_known_ct  {r : Bool} (hS : Sh.rectolaw8_known = some r) :
 Ct Tryz.prog 11 [] Mo.tt (Ow.emp) (X := Unit) (fun _ => .bool r) (fun _ => True) (fun _ => Mo.tt) (fun _ => Ow.emp) := by
 refine Ct.of Tryz.func11 rfl (by kernel_rfl) Tryz.ntmps11 (by simp) fun c => ?_
 unfold Sh.rectolaw8_known at hS
 refine Zq (Zr ?_)
 refine Za ?_
 refine Zl ?_
 refine Zq (Zr ?_)
 obtain ⟨y19_1, ey19_1, hS⟩ := bd_s hS
 refine VL.callO (store_New_ct ey19_1) rfl (by decide) ?_
 rintro ⟨q19_1_0, q19_1_1⟩ rfl
 try dsimp only
 refine Za ?_
 refine Zl ?_
 refine Zq (Zq (Zr ?_))
 refine Zm ?_
 refine VL.q (q_peqn Tryz.underlying24 rfl) (by decide) ?_
 refine Zl ?_
 refine VC.cond_f rfl ?_
 refine Zk ?_
 refine Zq (Zr ?_)
 refine VL.litO (α := UInt8) (xs := [.const (.int .u8 120)]) (vs := [.int .u8 120]) [(120 : UInt8)] Tryz.underlying22 glit5 (by decide) rfl rfl rfl rfl (by decide) (by decide) (fun s22_2 hs22_2 => ?_) (by decide)
 replace hS := lt_to hs22_2 hS
 refine VL.cvB (s := s22_2) Tryz.underlying22 Tryz.underlying5 Fo.out (by rw [hs22_2]; exact List.cons_ne_nil _ _) rfl (by decide) ?_
 refine VL.q (q_build (vs := [(0, i64 1), (1, s22_2.val)]) (cs := #[i64 1, s22_2.val, .slice none 0 0, i64 0, .slice none 0 0, i64 0, str []]) rfl (by kernel_rfl)) (by decide) ?_
 refine VL.alloc (cs := [i64 0, .slice none 0 0, .slice none 0 0, i64 0, .slice none 0 0, i64 0, str []]) (by kernel_rfl) (by decide) fun b2_4 => ?_
 refine VL.store (vc := [i64 1, s22_2.val, .slice none 0 0, i64 0, .slice none 0 0, i64 0, str []]) (cs' := [i64 1, s22_2.val, .slice none 0 0, i64 0, .slice none 0 0, i64 0, str []]) rfl rfl rfl gsz34 rfl rfl (Nat.le_of_ble_eq_true rfl) rfl ?_
 refine Zl ?_
 refine Zq (Zr ?_)
 refine Zm ?_
 refine VL.q (q_fes gagg34 rfl rfl) (by decide) ?_
 obtain ⟨y28_5, ey28_5, hS⟩ := bd_s hS
 refine VL.callO (store_Store_Put_ct q19_1_0 q19_1_1 (⟨1, s22_2, ⟨none, 0, []⟩, 0, ⟨none, 0, []⟩, 0, []⟩ : ObjectObject) ey28_5) rfl (by decide) ?_
 rintro ⟨q28_5_0, q28_5_1, q28_5_2⟩ rfl
 try dsimp only
 refine Zm ?_
 refine VL.q (q_extract rfl rfl) (by decide) ?_
 refine VL.q (q_extract rfl rfl) (by decide) ?_
 refine Za ?_
 refine Za ?_
 refine Zl ?_
 refine VC.keep (ρ' := [(1, ptr q19_1_0 0), (2, ptr b2_4 0), (3, i64 q28_5_0), (4, q28_5_1.val)]) [1, 2, 3, 4] rfl ?_
 refine Zq (Zr ?_)
 refine Zm ?_
 refine VL.q (q_fes gagg34 rfl rfl) (by decide) ?_
 obtain ⟨y34_6, ey34_6, hS⟩ := bd_s hS
 refine VL.callO (store_Store_Put_ct q19_1_0 q28_5_2 (⟨1, s22_2, ⟨none, 0, []⟩, 0, ⟨none, 0, []⟩, 0, []⟩ : ObjectObject) ey34_6) rfl (by decide) ?_
 rintro ⟨q34_6_0, q34_6_1, q34_6_2⟩ rfl
 try dsimp only
 refine Zm ?_
 refine VL.q (q_extract rfl rfl) (by decide) ?_
 refine VL.q (q_extract rfl rfl) (by decide) ?_
 refine Za ?_
 refine Za ?_
 refine Zl ?_
 refine Zq (Zr ?_)
 refine VL.q (q_build (vs := [(0, str [97]), (1, i64 1), (2, i64 1)]) (cs := #[str [97], i64 1, i64 1]) rfl (by kernel_rfl)) (by decide) ?_
 refine VL.lit (α := ObjectItem) (xs := [.tmp 37]) (vs := [.agg #[str [97], i64 1, i64 1]]) [⟨[97], 1, 1⟩] Tryz.underlying31 glit124 (by decide) rfl rfl rfl rfl (by decide) (fun _ _ _ _ => trivial) (by decide) (fun s38_7 hs38_7 => ?_) (by decide)
 replace hS := lt_to hs38_7 hS
 refine VL.q (q_build (vs := [(0, i64 2), (2, s38_7.val)]) (cs := #[i64 2, .slice none 0 0, s38_7.val, i64 0, .slice none 0 0, i64 0, str []]) rfl (by kernel_rfl)) (by decide) ?_
 refine VL.alloc (cs := [i64 0, .slice none 0 0, .slice none 0 0, i64 0, .slice none 0 0, i64 0, str []]) (by kernel_rfl) (by decide) fun b7_9 => ?_
 refine VL.store (vc := [i64 2, .slice none 0 0, s38_7.val, i64 0, .slice none 0 0, i64 0, str []]) (cs' := [i64 2, .slice none 0 0, s38_7.val, i64 0, .slice none 0 0, i64 0, str []]) rfl rfl rfl gsz34 rfl rfl (Nat.le_of_ble_eq_true rfl) rfl ?_
 refine Zl ?_
 refine VC.keep (ρ' := [(1, ptr q19_1_0 0), (2, ptr b2_4 0), (3, i64 q28_5_0), (4, q28_5_1.val), (5, i64 q34_6_0), (6, q34_6_1.val), (7, ptr b7_9 0)]) [1, 2, 3, 4, 5, 6, 7] rfl ?_
 refine Zq (Zr ?_)
 refine Zm ?_
 refine VL.q (q_fes gagg34 rfl rfl) (by decide) ?_
 obtain ⟨y43_10, ey43_10, hS⟩ := bd_s hS
 refine VL.callO (store_Store_Put_ct q19_1_0 q34_6_2 (⟨2, ⟨none, 0, []⟩, s38_7, 0, ⟨none, 0, []⟩, 0, []⟩ : ObjectObject) ey43_10) rfl (by decide) ?_
 rintro ⟨q43_10_0, q43_10_1, q43_10_2⟩ rfl
 try dsimp only
 refine Zm ?_
 refine VL.q (q_extract rfl rfl) (by decide) ?_
 refine VL.q (q_extract rfl rfl) (by decide) ?_
 refine Za ?_
 refine Za ?_
 refine Zl ?_
 refine Zq (Zr ?_)
 refine Zm ?_
 refine VL.q (q_build (vs := [(0, i64 3), (3, i64 1)]) (cs := #[i64 3, .slice none 0 0, .slice none 0 0, i64 1, .slice none 0 0, i64 0, str []]) rfl (by kernel_rfl)) (by decide) ?_
 obtain ⟨y49_11, ey49_11, hS⟩ := bd_s hS
 refine VL.callO (store_Store_Put_ct q19_1_0 q43_10_2 (⟨3, ⟨none, 0, []⟩, ⟨none, 0, []⟩, 1, ⟨none, 0, []⟩, 0, []⟩ : ObjectObject) ey49_11) rfl (by decide) ?_
 rintro ⟨q49_11_0, q49_11_1, q49_11_2⟩ rfl
 try dsimp only
 refine Zm ?_
 refine VL.q (q_extract rfl rfl) (by decide) ?_
 refine VL.q (q_extract rfl rfl) (by decide) ?_
 refine Za ?_
 refine Za ?_
 refine Zl ?_
 refine VC.keep (ρ' := [(1, ptr q19_1_0 0), (2, ptr b2_4 0), (3, i64 q28_5_0), (4, q28_5_1.val), (5, i64 q34_6_0), (6, q34_6_1.val), (7, ptr b7_9 0), (8, i64 q43_10_0), (9, q43_10_1.val), (11, q49_11_1.val)]) [1, 2, 3, 4, 5, 6, 7, 8, 9, 11] rfl ?_
 refine Zq (Zr ?_)
 refine Zm ?_
 obtain ⟨y54_12, ey54_12, hS⟩ := bd_s hS
 refine VL.callO (store_Store_Get_ct q19_1_0 q49_11_2 2 ey54_12) rfl (by decide) ?_
 rintro ⟨q54_12_0, q54_12_1⟩ rfl
 try dsimp only
 refine Zm ?_
 refine VL.q (q_extract rfl rfl) (by decide) ?_
 refine VL.q (q_extract rfl rfl) (by decide) ?_
 refine VL.alloc (cs := [i64 0, .slice none 0 0, .slice none 0 0, i64 0, .slice none 0 0, i64 0, str []]) (by kernel_rfl) (by decide) fun b12_13 => ?_
 refine VL.store (vc := [i64 q54_12_0.kind, q54_12_0.data.val, q54_12_0.items.val, i64 q54_12_0.tree, q54_12_0.parents.val, i64 q54_12_0.time, str q54_12_0.text]) (cs' := [i64 q54_12_0.kind, q54_12_0.data.val, q54_12_0.items.val, i64 q54_12_0.tree, q54_12_0.parents.val, i64 q54_12_0.time, str q54_12_0.text]) rfl rfl rfl gsz34 rfl rfl (Nat.le_of_ble_eq_true rfl) rfl ?_
 refine Za ?_
 refine Zl ?_
 refine Zq (Zr ?_)
 refine Zm ?_
 refine VL.q (q_fes gagg34 rfl rfl) (by decide) ?_
 obtain ⟨y60_14, ey60_14, hS⟩ := bd_s hS
 refine VL.callO (store_Store_Find_ct q19_1_0 q49_11_2 (⟨1, s22_2, ⟨none, 0, []⟩, 0, ⟨none, 0, []⟩, 0, []⟩ : ObjectObject) ey60_14) rfl (by decide) ?_
 rintro _ _
 try dsimp only
 refine Zm ?_
 refine VL.q (q_extract rfl rfl) (by decide) ?_
 refine VL.q (q_extract rfl rfl) (by decide) ?_
 refine Za ?_
 refine Za ?_
 refine Zl ?_
 refine VC.keep (ρ' := [(1, ptr q19_1_0 0), (3, i64 q28_5_0), (4, q28_5_1.val), (5, i64 q34_6_0), (6, q34_6_1.val), (7, ptr b7_9 0), (8, i64 q43_10_0), (9, q43_10_1.val), (11, q49_11_1.val), (12, ptr b12_13 0), (13, .bool q54_12_1), (14, i64 y60_14.1), (15, .bool y60_14.2)]) [1, 3, 4, 5, 6, 7, 8, 9, 11, 12, 13, 14, 15] rfl ?_
 refine Zq (Zr ?_)
 refine Zm ?_
 refine VL.lit (α := Int) (xs := [.const (i64 2)]) (vs := [i64 2]) [2] Tryz.underlying32 glit3 (by decide) rfl rfl rfl rfl (by decide) (fun _ _ _ _ => trivial) (by decide) (fun s64_15 hs64_15 => ?_) (by decide)
 replace hS := lt_to hs64_15 hS
 obtain ⟨y65_17, ey65_17, hS⟩ := bd_s hS
 refine VL.callO (store_Store_Reach_ct q19_1_0 q49_11_2 s64_15 ey65_17) rfl (by decide) ?_
 rintro q65_17_0 rfl
 try dsimp only
 refine Za ?_
 refine Zl ?_
 refine Zq (Zr ?_)
 refine Zm ?_
 obtain ⟨y68_18, ey68_18, hS⟩ := bd_s hS
 refine VL.callO (store_Store_Bytes_ct q19_1_0 q49_11_2 ey68_18) rfl (by decide) ?_
 rintro q68_18_0 rfl
 try dsimp only
 obtain ⟨y69_19, ey69_19, hS⟩ := bd_s hS
 refine VL.callO (store_Load_ct q68_18_0 ey69_19) rfl (by decide) ?_
 rintro (q69_19_0 | ⟨q69_19_0, q69_19_1⟩) rfl
 ·
  try dsimp only at hS
  try dsimp only
  refine Zm ?_
  refine VL.q (q_extract rfl rfl) (by decide) ?_
  refine VL.q (q_extract rfl rfl) (by decide) ?_
  refine Za ?_
  refine Za ?_
  refine Zl ?_
  refine VC.keep (ρ' := [(1, ptr q19_1_0 0), (3, i64 q28_5_0), (4, q28_5_1.val), (5, i64 q34_6_0), (6, q34_6_1.val), (7, ptr b7_9 0), (8, i64 q43_10_0), (9, q43_10_1.val), (11, q49_11_1.val), (12, ptr b12_13 0), (13, .bool q54_12_1), (14, i64 y60_14.1), (15, .bool y60_14.2), (16, q65_17_0.val), (17, .pointer none), (18, q69_19_0.val)]) [1, 3, 4, 5, 6, 7, 8, 9, 11, 12, 13, 14, 15, 16, 17, 18] rfl ?_
  refine Zq (Zr ?_)
  refine Zm ?_
  refine VL.q (q_ereq Tryz.underlying26 rfl) (by decide) ?_
  refine Zm ?_
  refine VL.split_dec 74 rfl (fun h74 => ?_) (fun h74 => ?_)
  ·
   replace hS := it_t h74 hS
   refine Zg ?_
   refine VL.gy rfl rfl (q_ereq Tryz.underlying26 rfl) (by decide) ?_
   refine Zt ?_
   refine Zm ?_
   refine VL.split_dec 78 rfl (fun h78 => ?_) (fun h78 => ?_)
   ·
    replace hS := it_t h78 hS
    refine Zg ?_
    refine VL.gy rfl rfl (q_ereq Tryz.underlying26 rfl) (by decide) ?_
    refine Zt ?_
    refine Zm ?_
    refine VL.split_dec 82 rfl (fun h82 => ?_) (fun h82 => ?_)
    ·
     replace hS := it_t h82 hS
     refine Zg ?_
     refine VL.gy rfl rfl (q_erne Tryz.underlying26 rfl) (by decide) ?_
     refine Zt ?_
     refine Zm ?_
     refine VL.split_ndec 86 rfl (fun h86 => ?_) (fun h86 => ?_)
     ·
      replace hS := it_f h86 hS
      refine Zg ?_
      refine VL.gy rfl rfl (q_ereq Tryz.underlying26 rfl) (by decide) ?_
      refine Zt ?_
      refine Zm ?_
      refine VL.split_dec 90 rfl (fun h90 => ?_) (fun h90 => ?_)
      ·
       replace hS := it_t h90 hS
       refine Zg ?_
       refine VL.gy rfl rfl (q_pnen Tryz.underlying24 rfl) (by decide) ?_
       refine Zt ?_
       refine Zm ?_
       refine VL.runs 48 [(0, some false)] (by kernel_rfl) ?_
       refine Zl ?_
       refine VC.keep (ρ' := [(0, .bool false)]) [0] rfl ?_
       cases hS
       exact Ze
      replace hS := it_f h90 hS
      refine VL.runs 52 [(0, some false)] (by kernel_rfl) ?_
      refine Zl ?_
      refine VC.keep (ρ' := [(0, .bool false)]) [0] rfl ?_
      cases hS
      exact Ze
     replace hS := it_t h86 hS
     refine VL.runs 56 [(0, some false)] (by kernel_rfl) ?_
     refine Zl ?_
     refine VC.keep (ρ' := [(0, .bool false)]) [0] rfl ?_
     cases hS
     exact Ze
    replace hS := it_f h82 hS
    refine VL.runs 60 [(0, some false)] (by kernel_rfl) ?_
    refine Zl ?_
    refine VC.keep (ρ' := [(0, .bool false)]) [0] rfl ?_
    cases hS
    exact Ze
   replace hS := it_f h78 hS
   refine VL.runs 64 [(0, some false)] (by kernel_rfl) ?_
   refine Zl ?_
   refine VC.keep (ρ' := [(0, .bool false)]) [0] rfl ?_
   cases hS
   exact Ze
  replace hS := it_f h74 hS
  refine VL.runs 68 [(0, some false)] (by kernel_rfl) ?_
  refine Zl ?_
  refine VC.keep (ρ' := [(0, .bool false)]) [0] rfl ?_
  cases hS
  exact Ze
 try dsimp only at hS
 try dsimp only
 refine Zm ?_
 refine VL.q (q_extract rfl rfl) (by decide) ?_
 refine VL.q (q_extract rfl rfl) (by decide) ?_
 refine Za ?_
 refine Za ?_
 refine Zl ?_
 refine VC.keep (ρ' := [(1, ptr q19_1_0 0), (3, i64 q28_5_0), (4, q28_5_1.val), (5, i64 q34_6_0), (6, q34_6_1.val), (7, ptr b7_9 0), (8, i64 q43_10_0), (9, q43_10_1.val), (11, q49_11_1.val), (12, ptr b12_13 0), (13, .bool q54_12_1), (14, i64 y60_14.1), (15, .bool y60_14.2), (16, q65_17_0.val), (17, ptr q69_19_0 0), (18, .nilIface)]) [1, 3, 4, 5, 6, 7, 8, 9, 11, 12, 13, 14, 15, 16, 17, 18] rfl ?_
 refine Zq (Zr ?_)
 refine Zm ?_
 refine VL.q (q_ereq Tryz.underlying26 rfl) (by decide) ?_
 refine Zm ?_
 refine VL.split_dec 74 rfl (fun h74 => ?_) (fun h74 => ?_)
 ·
  replace hS := it_t h74 hS
  refine Zg ?_
  refine VL.gy rfl rfl (q_ereq Tryz.underlying26 rfl) (by decide) ?_
  refine Zt ?_
  refine Zm ?_
  refine VL.split_dec 78 rfl (fun h78 => ?_) (fun h78 => ?_)
  ·
   replace hS := it_t h78 hS
   refine Zg ?_
   refine VL.gy rfl rfl (q_ereq Tryz.underlying26 rfl) (by decide) ?_
   refine Zt ?_
   refine Zm ?_
   refine VL.split_dec 82 rfl (fun h82 => ?_) (fun h82 => ?_)
   ·
    replace hS := it_t h82 hS
    refine Zg ?_
    refine VL.gy rfl rfl (q_erne Tryz.underlying26 rfl) (by decide) ?_
    refine Zt ?_
    refine Zm ?_
    refine VL.split_ndec 86 rfl (fun h86 => ?_) (fun h86 => ?_)
    ·
     replace hS := it_f h86 hS
     refine Zg ?_
     refine VL.gy rfl rfl (q_nileq Tryz.underlying26 rfl) (by decide) ?_
     refine Zt ?_
     refine Zm ?_
     refine Zg ?_
     refine VL.gy rfl rfl (q_pnen Tryz.underlying24 rfl) (by decide) ?_
     refine Zt ?_
     refine Zm ?_
     refine Zg ?_
     refine VL.gy rfl rfl (q_eql rfl rfl) (by decide) ?_
     refine Zt ?_
     refine Zm ?_
     refine VL.split_dec 98 rfl (fun h98 => ?_) (fun h98 => ?_)
     ·
      replace hS := it_t h98 hS
      refine Zg ?_
      refine VL.gy rfl rfl (q_eql rfl rfl) (by decide) ?_
      refine Zt ?_
      refine Zm ?_
      refine VL.split_dec 102 rfl (fun h102 => ?_) (fun h102 => ?_)
      ·
       replace hS := it_t h102 hS
       refine Zg ?_
       refine VL.gy rfl rfl (q_eql rfl rfl) (by decide) ?_
       refine Zt ?_
       refine Zm ?_
       refine VL.split_dec 106 rfl (fun h106 => ?_) (fun h106 => ?_)
       ·
        replace hS := it_t h106 hS
        refine Zg ?_
        refine Zt ?_
        refine Zm ?_
        refine VL.split 109 rfl (fun h109 => ?_) (fun h109 => ?_)
        ·
         replace hS := it_t h109 hS
         refine VL.gy rfl rfl (q_fes gagg34 rfl rfl) (by decide) ?_
         refine VL.gy rfl rfl (q_fes gagg34 rfl rfl) (by decide) ?_
         obtain ⟨y112_20, ey112_20, hS⟩ := bd_s hS
         refine VL.gy rfl rfl (q_call (object_Same_ct q54_12_0 (⟨2, ⟨none, 0, []⟩, s38_7, 0, ⟨none, 0, []⟩, 0, []⟩ : ObjectObject) ey112_20) rfl (fun _ _ => rfl)) (by decide) ?_
         refine Zt ?_
         refine Zm ?_
         refine VL.split 114 rfl (fun h114 => ?_) (fun h114 => ?_)
         ·
          replace hS := it_t h114 hS
          refine Zg ?_
          refine VL.gy rfl rfl (q_eql rfl rfl) (by decide) ?_
          refine Zt ?_
          refine Zm ?_
          refine VL.split_dec 118 rfl (fun h118 => ?_) (fun h118 => ?_)
          ·
           replace hS := it_t h118 hS
           refine Zg ?_
           refine Zt ?_
           refine Zm ?_
           refine VL.split 121 rfl (fun h121 => ?_) (fun h121 => ?_)
           ·
            replace hS := it_t h121 hS
            refine Zg ?_
            refine VL.gy rfl rfl (q_ln (s := q65_17_0) Tryz.underlying32 rfl) (by decide) ?_
            refine VL.gy rfl rfl (q_eql rfl rfl) (by decide) ?_
            refine Zt ?_
            refine Zm ?_
            refine VL.split_dec 126 rfl (fun h126 => ?_) (fun h126 => ?_)
            ·
             replace hS := it_t h126 hS
             refine Zg ?_
             obtain ⟨z128_21, nz128_21, hz128_21, hS⟩ := at_s hS
             refine VL.gy rfl rfl (q_ixm (s := q65_17_0) Tryz.underlying32 gsz3 rfl rfl nz128_21 (lt_of_get nz128_21 hz128_21)) (by decide) ?_
             refine VL.gy rfl rfl (q_el (s := q65_17_0) gone3 rfl hz128_21 rfl) (by decide) ?_
             refine VL.gy rfl rfl (q_eql rfl rfl) (by decide) ?_
             refine Zt ?_
             refine Zm ?_
             refine VL.split_dec 132 rfl (fun h132 => ?_) (fun h132 => ?_)
             ·
              replace hS := it_t h132 hS
              refine Zg ?_
              refine VL.guard rfl rfl ?_
              obtain ⟨y134_22, ey134_22, hS⟩ := bd_s hS
              refine VL.callO (store_Store_Len_ct q19_1_0 q49_11_2 ey134_22) rfl (by decide) ?_
              rintro _ _
              try dsimp only
              refine VL.gy rfl rfl (q_eql rfl rfl) (by decide) ?_
              refine Zt ?_
              refine Zm ?_
              refine VL.split_dec 137 rfl (fun h137 => ?_) (fun h137 => ?_)
              ·
               replace hS := it_t h137 hS
               refine Zg ?_
               refine VL.guard rfl rfl ?_
               obtain ⟨y139_23, ey139_23, hS⟩ := bd_s hS
               refine VL.callO (store_Store_Len_ct q69_19_0 q69_19_1 ey139_23) rfl (by decide) ?_
               rintro _ _
               try dsimp only
               refine VL.gy rfl rfl (q_eql rfl rfl) (by decide) ?_
               refine Zt ?_
               refine Za ?_
               refine Zl ?_
               refine VC.keep (ρ' := [(0, .bool (decide (y139_23 = 2)))]) [0] rfl ?_
               cases hS
               exact Ze
              replace hS := it_f h137 hS
              refine VL.runs 5 [(0, some false)] (by kernel_rfl) ?_
              refine Zl ?_
              refine VC.keep (ρ' := [(0, .bool false)]) [0] rfl ?_
              cases hS
              exact Ze
             replace hS := it_f h132 hS
             refine VL.runs 10 [(0, some false)] (by kernel_rfl) ?_
             refine Zl ?_
             refine VC.keep (ρ' := [(0, .bool false)]) [0] rfl ?_
             cases hS
             exact Ze
            replace hS := it_f h126 hS
            refine VL.runs 16 [(0, some false)] (by kernel_rfl) ?_
            refine Zl ?_
            refine VC.keep (ρ' := [(0, .bool false)]) [0] rfl ?_
            cases hS
            exact Ze
           replace hS := it_b h121 hS
           refine VL.runs 21 [(0, some false)] (by kernel_rfl) ?_
           refine Zl ?_
           refine VC.keep (ρ' := [(0, .bool false)]) [0] rfl ?_
           cases hS
           exact Ze
          replace hS := it_f h118 hS
          refine VL.runs 24 [(0, some false)] (by kernel_rfl) ?_
          refine Zl ?_
          refine VC.keep (ρ' := [(0, .bool false)]) [0] rfl ?_
          cases hS
          exact Ze
         replace hS := it_b h114 hS
         refine VL.runs 28 [(0, some false)] (by kernel_rfl) ?_
         refine Zl ?_
         refine VC.keep (ρ' := [(0, .bool false)]) [0] rfl ?_
         cases hS
         exact Ze
        replace hS := it_b h109 hS
        refine VL.runs 33 [(0, some false)] (by kernel_rfl) ?_
        refine Zl ?_
        refine VC.keep (ρ' := [(0, .bool false)]) [0] rfl ?_
        cases hS
        exact Ze
       replace hS := it_f h106 hS
       refine VL.runs 36 [(0, some false)] (by kernel_rfl) ?_
       refine Zl ?_
       refine VC.keep (ρ' := [(0, .bool false)]) [0] rfl ?_
       cases hS
       exact Ze
      replace hS := it_f h102 hS
      refine VL.runs 40 [(0, some false)] (by kernel_rfl) ?_
      refine Zl ?_
      refine VC.keep (ρ' := [(0, .bool false)]) [0] rfl ?_
      cases hS
      exact Ze
     replace hS := it_f h98 hS
     refine VL.runs 44 [(0, some false)] (by kernel_rfl) ?_
     refine Zl ?_
     refine VC.keep (ρ' := [(0, .bool false)]) [0] rfl ?_
     cases hS
     exact Ze
    replace hS := it_t h86 hS
    refine VL.runs 56 [(0, some false)] (by kernel_rfl) ?_
    refine Zl ?_
    refine VC.keep (ρ' := [(0, .bool false)]) [0] rfl ?_
    cases hS
    exact Ze
   replace hS := it_f h82 hS
   refine VL.runs 60 [(0, some false)] (by kernel_rfl) ?_
   refine Zl ?_
   refine VC.keep (ρ' := [(0, .bool false)]) [0] rfl ?_
   cases hS
   exact Ze
  replace hS := it_f h78 hS
  refine VL.runs 64 [(0, some false)] (by kernel_rfl) ?_
  refine Zl ?_
  refine VC.keep (ρ' := [(0, .bool false)]) [0] rfl ?_
  cases hS
  exact Ze
 replace hS := it_f h74 hS
 refine VL.runs 68 [(0, some false)] (by kernel_rfl) ?_
 refine Zl ?_
 refine VC.keep (ρ' := [(0, .bool false)]) [0] rfl ?_
 cases hS
 exact Ze
theorem rectolaw7_Of_ct (o_0 : ObjectObject) {r : Rectoref7ObjectP} (hS : Sh.rectolaw7_Of o_0.pl = some r) :
 Ct Tryz.prog 15 [.agg #[i64 o_0.kind, o_0.data.val, o_0.items.val, i64 o_0.tree, o_0.parents.val, i64 o_0.time, str o_0.text]] (o_0.data.ok.and (o_0.items.ok.and o_0.parents.ok)) (Ow.emp) (X := Rectoref7Object) (fun x => .agg (Dat.enc x).toArray) (fun x => r = x.pl) (fun x => x.m) (fun x => Ow.emp) := by
 refine Ct.of Tryz.func15 rfl (by kernel_rfl) Tryz.ntmps15 (by simp) fun c => ?_
 unfold Sh.rectolaw7_Of at hS
 refine Zq (Zr ?_)
 refine VL.box (cs := [i64 o_0.kind, o_0.data.val, o_0.items.val, i64 o_0.tree, o_0.parents.val, i64 o_0.time, str o_0.text]) rfl rfl (by decide) fun b1_1 => ?_
 refine VL.alloc (cs := [i64 0, str [], .slice none 0 0, i64 0, .slice none 0 0, i64 0, str []]) (by kernel_rfl) (by decide) fun b2_2 => ?_
 refine Zl ?_
 refine Zq (Zr ?_)
 refine VL.q (q_field gfa34_0 rfl) (by decide) ?_
 refine VL.q (q_fe gone3 rfl rfl) (by decide) ?_
 refine VL.q (q_field gfa34_1 rfl) (by decide) ?_
 refine VL.q (q_fe gone22 rfl rfl) (by decide) ?_
 refine VL.q (q_b2s (s := o_0.data) Tryz.underlying22 Tryz.underlying5 Tryz.underlying9 rfl) (by decide) ?_
 refine VL.q (q_field gfa34_3 rfl) (by decide) ?_
 refine VL.q (q_fe gone3 rfl rfl) (by decide) ?_
 refine VL.q (q_field gfa34_4 rfl) (by decide) ?_
 refine VL.q (q_fe gone32 rfl rfl) (by decide) ?_
 refine VL.q (q_field gfa34_5 rfl) (by decide) ?_
 refine VL.q (q_fe gone3 rfl rfl) (by decide) ?_
 refine VL.q (q_field gfa34_6 rfl) (by decide) ?_
 refine VL.q (q_fe gone9 rfl rfl) (by decide) ?_
 refine VL.q (q_build (vs := [(0, i64 o_0.kind), (1, str o_0.data.l), (3, i64 o_0.tree), (4, o_0.parents.val), (5, i64 o_0.time), (6, str o_0.text)]) (cs := #[i64 o_0.kind, str o_0.data.l, .slice none 0 0, i64 o_0.tree, o_0.parents.val, i64 o_0.time, str o_0.text]) rfl (by kernel_rfl)) (by decide) ?_
 refine VL.alloc (cs := [i64 0, str [], .slice none 0 0, i64 0, .slice none 0 0, i64 0, str []]) (by kernel_rfl) (by decide) fun b3_3 => ?_
 refine VL.store (vc := [i64 o_0.kind, str o_0.data.l, .slice none 0 0, i64 o_0.tree, o_0.parents.val, i64 o_0.time, str o_0.text]) (cs' := [i64 o_0.kind, str o_0.data.l, .slice none 0 0, i64 o_0.tree, o_0.parents.val, i64 o_0.time, str o_0.text]) rfl rfl rfl gsz39 rfl rfl (Nat.le_of_ble_eq_true rfl) rfl ?_
 refine Zl ?_
 refine VC.keep (ρ' := [(1, ptr b1_1 0), (2, ptr b2_2 0), (3, ptr b3_3 0)]) [1, 2, 3] rfl ?_
 refine Zq (Zq (Zr ?_))
 refine Za ?_
 refine Zl ?_
 refine Zb ?_
 refine VC.nilO (⟨none, 0, []⟩ : Sv Rectoref7Item) 142 ⟨rfl, rfl⟩ ?_
 refine VC.reB b3_3 (cs' := [i64 o_0.kind, str o_0.data.l, (⟨none, 0, []⟩ : Sv Rectoref7Item).val, i64 o_0.tree, o_0.parents.val, i64 o_0.time, str o_0.text]) rfl ?_
 refine VC.iter (S := Int × Sv Rectoref7Item) (fun sg => (sg.1, sg.2.l)) (fun sg => [(1, ptr b1_1 0), (2, ptr b2_2 0), (3, ptr b3_3 0), (4, i64 sg.1)]) (fun sg => Mo.tt) (fun sg => Ow.star (Blk b3_3 [i64 o_0.kind, str o_0.data.l, sg.2.val, i64 o_0.tree, o_0.parents.val, i64 o_0.time, str o_0.text] 39) (Ow.star (Blk b2_2 [i64 0, str [], .slice none 0 0, i64 0, .slice none 0 0, i64 0, str []] 39) (Ow.star (Blk b1_1 [i64 o_0.kind, o_0.data.val, o_0.items.val, i64 o_0.tree, o_0.parents.val, i64 o_0.time, str o_0.text] 34) (Ow.star (Sv.own sg.2 142) (Ow.emp))))) (0, (⟨none, 0, []⟩ : Sv Rectoref7Item)) [1, 2, 3, 4] hS rfl ?_
 clear hS
 rintro ⟨i4_4, c2_5⟩ m1 y1 hS hK1
 show VC _ _ _ _ _ [(1, ptr b1_1 0), (2, ptr b2_2 0), (3, ptr b3_3 0), (4, i64 i4_4)] (Mo.and Mo.tt _) (Ow.star (Blk b3_3 [i64 o_0.kind, str o_0.data.l, c2_5.val, i64 o_0.tree, o_0.parents.val, i64 o_0.time, str o_0.text] 39) (Ow.star (Blk b2_2 [i64 0, str [], .slice none 0 0, i64 0, .slice none 0 0, i64 0, str []] 39) (Ow.star (Blk b1_1 [i64 o_0.kind, o_0.data.val, o_0.items.val, i64 o_0.tree, o_0.parents.val, i64 o_0.time, str o_0.text] 34) (Ow.star (Sv.own c2_5 142) (Ow.emp)))))
 refine Zq (Zq (Zr ?_))
 refine Zm ?_
 refine VL.q (q_field gfa34_2 rfl) (by decide) ?_
 refine VL.q (q_fe gone31 rfl rfl) (by decide) ?_
 refine VL.q (q_ln (s := o_0.items) Tryz.underlying31 rfl) (by decide) ?_
 refine VL.q (q_lss rfl rfl) (by decide) ?_
 refine Zl ?_
 refine VC.cond_dec rfl (fun h23 => ?_) (fun h23 => ?_)
 ·
  replace hS := it_t h23 hS
  refine Zk ?_
  refine Zq (Zb ?_)
  refine VC.draw [(0, true), (1, true), (2, true), (3, true), (4, true), (5, true), (6, true), (7, true), (8, true), (9, true), (10, true), (11, true), (12, true), (13, true), (14, true), (15, true), (16, true), (17, true), (18, true), (19, true), (20, true), (21, false), (22, false), (23, true), (24, false)] mixed (by kernel_rfl) (by kernel_rfl) (by kernel_rfl) ?_
  refine VD.q rfl (q_field gfa39_2 rfl) (by decide) ?_
  refine VD.q rfl (q_fe gone37 rfl rfl) (by decide) ?_
  refine VD.q rfl (q_field gfa34_2 rfl) (by decide) ?_
  refine VD.q rfl (q_fe gone31 rfl rfl) (by decide) ?_
  refine VD.q rfl (q_move rfl) (by decide) ?_
  obtain ⟨z31_6, nz31_6, hz31_6, hS⟩ := at_s hS
  refine VD.q rfl (q_ixm (s := o_0.items) Tryz.underlying31 gsz124 rfl rfl nz31_6 (lt_of_get nz31_6 hz31_6)) (by decide) ?_
  refine VD.q rfl (q_field gfa124_0 rfl) (by decide) ?_
  refine VD.q rfl (q_elf (s := o_0.items) gone9 rfl hz31_6 rfl) (by decide) ?_
  refine VD.q rfl (q_field gfa34_2 rfl) (by decide) ?_
  refine VD.q rfl (q_fe gone31 rfl rfl) (by decide) ?_
  refine VD.q rfl (q_move rfl) (by decide) ?_
  obtain ⟨z37_7, nz37_7, hz37_7, hS⟩ := at_s hS
  refine VD.q rfl (q_ixm (s := o_0.items) Tryz.underlying31 gsz124 rfl rfl nz37_7 (lt_of_get nz37_7 hz37_7)) (by decide) ?_
  refine VD.q rfl (q_field gfa124_1 rfl) (by decide) ?_
  refine VD.q rfl (q_elf (s := o_0.items) gone3 rfl hz37_7 rfl) (by decide) ?_
  refine VD.q rfl (q_field gfa34_2 rfl) (by decide) ?_
  refine VD.q rfl (q_fe gone31 rfl rfl) (by decide) ?_
  refine VD.q rfl (q_move rfl) (by decide) ?_
  obtain ⟨z43_8, nz43_8, hz43_8, hS⟩ := at_s hS
  refine VD.q rfl (q_ixm (s := o_0.items) Tryz.underlying31 gsz124 rfl rfl nz43_8 (lt_of_get nz43_8 hz43_8)) (by decide) ?_
  refine VD.q rfl (q_field gfa124_2 rfl) (by decide) ?_
  refine VD.q rfl (q_elf (s := o_0.items) gone3 rfl hz43_8 rfl) (by decide) ?_
  refine VD.q rfl (q_build (vs := [(0, str z31_6.path), (1, i64 z37_7.mode), (2, i64 z43_8.blob)]) (cs := #[str z31_6.path, i64 z37_7.mode, i64 z43_8.blob]) rfl (by kernel_rfl)) (by decide) ?_
  refine VD.one rfl ?_
  refine VL.lit (α := Rectoref7Item) (xs := [.tmp 46]) (vs := [.agg #[str z31_6.path, i64 z37_7.mode, i64 z43_8.blob]]) [⟨z31_6.path, z37_7.mode, z43_8.blob⟩] Tryz.underlying37 glit142 (by decide) rfl rfl rfl rfl (by decide) (fun _ _ _ _ => trivial) (by decide) (fun s47_9 hs47_9 => ?_) (by decide)
  replace hS := lt_to hs47_9 hS
  refine VL.back (D' := [(1, c2_5.val), (0, ptr b3_3 2)]) (by kernel_rfl) (Pend.cons rfl (q_fe gone37 rfl rfl) (Pend.cons rfl (q_field gfa39_2 rfl) (Pend.nil))) ?_
  refine VD.one rfl ?_
  obtain ⟨b48, hS⟩ := gd_s hS
  refine VL.app (s := c2_5) (r := s47_9) Tryz.underlying37 gapp142 (by decide) rfl Fo.out (ap1 b48) (ap2 b48 (by decide)) (by decide) (fun s48_11 hs48_11 => ?_)
  replace hS := lt_to hs48_11 hS
  refine VL.back (D' := []) (by kernel_rfl) (Pend.nil) ?_
  refine VD.q rfl (q_field gfa39_2 rfl) (by decide) ?_
  refine VD.one rfl ?_
  refine VL.store (vc := [s48_11.val]) (cs' := [i64 o_0.kind, str o_0.data.l, s48_11.val, i64 o_0.tree, o_0.parents.val, i64 o_0.time, str o_0.text]) rfl rfl rfl gsz37 rfl rfl (Nat.le_of_ble_eq_true rfl) rfl ?_
  refine VL.back (D' := []) (by kernel_rfl) (Pend.nil) ?_
  refine VD.to (fun _ _ h => h) ?_
  refine VC.keep (ρ' := [(1, ptr b1_1 0), (2, ptr b2_2 0), (3, ptr b3_3 0), (4, i64 i4_4)]) [1, 2, 3, 4] rfl ?_
  refine Zr ?_
  refine Zm ?_
  obtain ⟨b25, hS⟩ := gd_s hS
  refine VL.q (q_add rfl rfl b25) (by decide) ?_
  refine Za ?_
  refine VL.rnd ((i4_4 + 1), s48_11) [1, 2, 3, 4] (fun _ _ h => h) (go2 hS hK1) rfl
 replace hS := it_f h23 hS
 replace hS := up2 hS hK1
 refine Zx ?_
 refine Zq (Zr ?_)
 refine VL.q (q_fes gagg39 rfl rfl) (by decide) ?_
 refine VL.store (vc := [i64 o_0.kind, str o_0.data.l, c2_5.val, i64 o_0.tree, o_0.parents.val, i64 o_0.time, str o_0.text]) (cs' := [i64 o_0.kind, str o_0.data.l, c2_5.val, i64 o_0.tree, o_0.parents.val, i64 o_0.time, str o_0.text]) rfl rfl rfl gsz39 rfl rfl (Nat.le_of_ble_eq_true rfl) rfl ?_
 refine Zl ?_
 refine VC.shut c2_5 142 (fun _ _ _ _ => trivial) ?_
 cases hS
 exact VC.ret (finG (vs := [.agg #[i64 o_0.kind, str o_0.data.l, c2_5.val, i64 o_0.tree, o_0.parents.val, i64 o_0.time, str o_0.text]]) (.inr rfl) rfl (RVs.cell gagg39 rfl rfl Rd.blk (RVs.nil)) ⟨o_0.kind, o_0.data.l, c2_5, o_0.tree, o_0.parents, o_0.time, o_0.text⟩ rfl rfl (by (try dsimp only); exact InM.out) (fun _ _ => trivial))
theorem rectoref7_cut_ct (k_0 : Int) {r : Int} (hS : Sh.rectoref7_cut k_0 = some r) :
 Ct Tryz.prog 132 [i64 k_0] Mo.tt (Ow.emp) (X := Unit) (fun _ => i64 r) (fun _ => True) (fun _ => Mo.tt) (fun _ => Ow.emp) := by
 refine Ct.of Tryz.func132 rfl (by kernel_rfl) Tryz.ntmps132 (by simp) fun c => ?_
 unfold Sh.rectoref7_cut at hS
 refine Zq (Zr ?_)
 refine Za ?_
 refine Zl ?_
 refine Zq (Zq (Zr ?_))
 refine Zm ?_
 refine VL.q (q_lss rfl rfl) (by decide) ?_
 refine Zl ?_
 refine VC.cond_dec rfl (fun h4 => ?_) (fun h4 => ?_)
 ·
  replace hS := it_t h4 hS
  refine Zq (Zr ?_)
  refine Za ?_
  refine Zl ?_
  cases hS
  exact Ze
 replace hS := it_f h4 hS
 refine Zk ?_
 refine Zq (Zq (Zr ?_))
 refine Zm ?_
 refine VL.q (q_gtr rfl rfl) (by decide) ?_
 refine Zl ?_
 refine VC.cond_dec rfl (fun h6 => ?_) (fun h6 => ?_)
 ·
  replace hS := it_t h6 hS
  refine Zq (Zr ?_)
  refine Za ?_
  refine Zl ?_
  cases hS
  exact Ze
 replace hS := it_f h6 hS
 refine Zk ?_
 refine Zq (Zr ?_)
 refine Zm ?_
 refine Za ?_
 refine Zl ?_
 cases hS
 exact Ze
theorem rectoref3_At_ct (word_0 : Str) (at_1 : Int) (e_2 : Int) {r : Rectoref3WrongP} (hS : Sh.rectoref3_At word_0 at_1 e_2 = some r) :
 Ct Tryz.prog 59 [str word_0, i64 at_1, i64 e_2] Mo.tt (Ow.emp) (X := Rectoref3Wrong) (fun x => .agg (Dat.enc x).toArray) (fun x => r = x.pl) (fun x => x.m) (fun x => Ow.emp) := by
 refine Ct.of Tryz.func59 rfl (by kernel_rfl) Tryz.ntmps59 (by simp) fun c => ?_
 unfold Sh.rectoref3_At at hS
 refine Zq (Zr ?_)
 refine VL.alloc (cs := [.slice none 0 0, i64 0]) (by kernel_rfl) (by decide) fun b6_1 => ?_
 refine Zl ?_
 refine Zq (Zr ?_)
 refine Zm ?_
 refine Zm ?_
 refine VL.q (q_build (vs := [(0, str word_0), (1, i64 at_1)]) (cs := #[str word_0, i64 at_1]) rfl (by kernel_rfl)) (by decide) ?_
 refine VL.lit (α := Rectoref3Part) (xs := [.tmp 9]) (vs := [.agg #[str word_0, i64 at_1]]) [⟨word_0, at_1⟩] Tryz.underlying41 glit196 (by decide) rfl rfl rfl rfl (by decide) (fun _ _ _ _ => trivial) (by decide) (fun s10_2 hs10_2 => ?_) (by decide)
 replace hS := lt_to hs10_2 hS
 refine Zm ?_
 refine VL.q (q_build (vs := [(0, s10_2.val), (1, i64 e_2)]) (cs := #[s10_2.val, i64 e_2]) rfl (by kernel_rfl)) (by decide) ?_
 refine VL.store (vc := [s10_2.val, i64 e_2]) (cs' := [s10_2.val, i64 e_2]) rfl rfl rfl gsz43 rfl rfl (Nat.le_of_ble_eq_true rfl) rfl ?_
 refine Zl ?_
 cases hS
 exact VC.ret (finG (vs := [.agg #[s10_2.val, i64 e_2]]) (.inr rfl) rfl (RVs.cell gagg43 rfl rfl Rd.blk (RVs.nil)) ⟨s10_2, e_2⟩ rfl rfl (by (try dsimp only); exact InM.out) (fun _ _ => trivial))
theorem rectoref1_Parts_ct (p_0 : Str) {r : List Str} (hS : Sh.rectoref1_Parts p_0 = some r) :
 Ct Tryz.prog 240 [str p_0] Mo.tt (Ow.emp) (X := Sv Str) (fun x => x.val) (fun x => r = x.l) (fun x => Mo.tt) (fun x => Sv.own x 9) := by
 refine Ct.of Tryz.func240 rfl (by kernel_rfl) Tryz.ntmps240 (by simp) fun c => ?_
 unfold Sh.rectoref1_Parts at hS
 refine Zq (Zr ?_)
 refine Za ?_
 refine Zl ?_
 refine Zq (Zq (Zr ?_))
 refine Zm ?_
 refine Zs ?_
 refine Zl ?_
 refine VC.cond_dec rfl (fun h6 => ?_) (fun h6 => ?_)
 ·
  replace hS := it_t h6 hS
  refine Zq (Zr ?_)
  refine Za ?_
  refine Zl ?_
  refine VC.nilO (⟨none, 0, []⟩ : Sv Str) 9 ⟨rfl, rfl⟩ ?_
  cases hS
  exact VC.ret (fin1 (.inr rfl) rfl rfl ⟨none, 0, []⟩ rfl rfl (by (try dsimp only); exact InM.out) (by (try dsimp only); exact EntO.out))
 replace hS := it_f h6 hS
 refine Zk ?_
 refine Zq (Zr ?_)
 refine VL.litO (α := Str) (xs := [.const (str [])]) (vs := [str []]) [[]] Tryz.underlying89 glit9 (by decide) rfl rfl rfl rfl (by decide) (by decide) (fun s7_1 hs7_1 => ?_) (by decide)
 replace hS := lt_to hs7_1 hS
 refine Za ?_
 refine Zl ?_
 refine Zq (Zq (Zr ?_))
 refine Za ?_
 refine Zl ?_
 refine Zb ?_
 refine VC.iter (S := Sv Str × Int) (fun sg => (sg.1.l, sg.2)) (fun sg => [(0, str p_0), (3, sg.1.val), (4, i64 sg.2)]) (fun sg => Mo.tt) (fun sg => Ow.star (Sv.own sg.1 9) (Ow.emp)) (s7_1, 0) [0, 3, 4] hS rfl ?_
 clear hS
 rintro ⟨out3_3, i4_4⟩ m1 y1 hS hK1
 show VC _ _ _ _ _ [(0, str p_0), (3, out3_3.val), (4, i64 i4_4)] (Mo.and Mo.tt _) (Ow.star (Sv.own out3_3 9) (Ow.emp))
 refine Zq (Zq (Zr ?_))
 refine Zm ?_
 refine Zm ?_
 refine VL.q (q_slen Tryz.underlying9 rfl) (by decide) ?_
 refine VL.q (q_lss rfl rfl) (by decide) ?_
 refine Zl ?_
 refine VC.cond_dec rfl (fun h11 => ?_) (fun h11 => ?_)
 ·
  replace hS := it_t h11 hS
  refine Zk ?_
  refine VC.cutJ (S := Sv Str) (fun (out3_5 : Sv Str) => out3_5.l) (fun (out3_5 : Sv Str) => [(0, str p_0), (3, out3_5.val), (4, i64 i4_4)]) (fun (out3_5 : Sv Str) => Mo.tt) (fun (out3_5 : Sv Str) => Ow.star (Sv.own out3_5 9) (Ow.emp)) hS ?_ ?_
  ·
   clear hS
   intro k6 hS
   refine Zb (Zq (Zq (Zr ?_)))
   refine Zm ?_
   refine Zm ?_
   obtain ⟨z16_7, nz16_7, hz16_7, hS⟩ := at_s hS
   refine VL.q (q_sidx Tryz.underlying9 rfl rfl nz16_7 hz16_7) (by decide) ?_
   refine VL.q (q_eql rfl rfl) (by decide) ?_
   refine Zl ?_
   refine VC.keep (ρ' := [(0, str p_0), (3, out3_3.val), (4, i64 i4_4), (17, .bool (decide ((z16_7.toNat : Int) = 47)))]) [0, 3, 4, 17] rfl ?_
   refine VC.cond_dec rfl (fun h17 => ?_) (fun h17 => ?_)
   ·
    replace hS := it_t h17 hS
    refine Zq (Zr ?_)
    refine Zm ?_
    refine VL.lit (α := Str) (xs := [.const (str [])]) (vs := [str []]) [[]] Tryz.underlying89 glit9 (by decide) rfl rfl rfl rfl (by decide) (fun _ _ _ _ => trivial) (by decide) (fun s19_8 hs19_8 => ?_) (by decide)
    replace hS := lt_to hs19_8 hS
    obtain ⟨b20, hS⟩ := gd_s hS
    refine VL.app (s := out3_3) (r := s19_8) Tryz.underlying89 gapp9 (by decide) rfl Fo.out (ap1 b20) (ap2 b20 (by decide)) (by decide) (fun s20_10 hs20_10 => ?_)
    replace hS := lt_to hs20_10 hS
    refine Za ?_
    refine Zl ?_
    refine VC.exit_mt s20_10 [0, 3, 4] (fun _ _ h => h) hS rfl
   replace hS := it_f h17 hS
   refine Zk ?_
   refine VC.draw [(0, true), (1, true), (2, true), (3, true), (4, true), (5, true), (6, true), (7, true), (8, true), (9, true), (10, true), (11, true), (12, true), (13, true), (14, true), (15, true), (16, true), (17, false)] mixed (by kernel_rfl) (by kernel_rfl) (by kernel_rfl) ?_
   refine VD.q rfl (q_move rfl) (by decide) ?_
   refine VD.q rfl (q_move rfl) (by decide) ?_
   refine VD.q rfl (q_ln (s := out3_3) Tryz.underlying89 rfl) (by decide) ?_
   obtain ⟨b24, hS⟩ := gd_s hS
   refine VD.q rfl (q_sub rfl rfl b24) (by decide) ?_
   refine VD.q rfl (q_move rfl) (by decide) ?_
   refine VD.q rfl (q_move rfl) (by decide) ?_
   refine VD.q rfl (q_ln (s := out3_3) Tryz.underlying89 rfl) (by decide) ?_
   obtain ⟨b28, hS⟩ := gd_s hS
   refine VD.q rfl (q_sub rfl rfl b28) (by decide) ?_
   obtain ⟨z29_12, nz29_12, hz29_12, hS⟩ := at_s hS
   refine VD.q rfl (q_ixo (s := out3_3) Tryz.underlying89 gsz9 rfl rfl nz29_12 (lt_of_get nz29_12 hz29_12)) (by decide) ?_
   refine VD.q rfl (q_elo (s := out3_3) 9 gone9 rfl hz29_12 rfl) (by decide) ?_
   refine VD.q rfl (q_move rfl) (by decide) ?_
   refine VD.q rfl (q_move rfl) (by decide) ?_
   refine VD.q rfl (q_move rfl) (by decide) ?_
   obtain ⟨b34, hS⟩ := gd_s hS
   refine VD.q rfl (q_add rfl rfl b34) (by decide) ?_
   obtain ⟨b35, hS⟩ := gd_s hS
   obtain ⟨y35_13, ey35_13, hS⟩ := lt_s hS
   refine VD.q rfl (q_smidE Tryz.underlying9 rfl rfl rfl b35.1 b35.2.1 b35.2.2 ey35_13) (by decide) ?_
   obtain ⟨b36, hS⟩ := gd_s hS
   obtain ⟨y36_14, ey36_14, hS⟩ := lt_s hS
   refine VD.q rfl (q_catE rfl rfl b36 ey36_14) (by decide) ?_
   obtain ⟨z37_15, nz37_15, hz37_15, hS⟩ := at_s hS
   refine VD.q rfl (q_ixo (s := out3_3) Tryz.underlying89 gsz9 rfl rfl nz37_15 (lt_of_get nz37_15 hz37_15)) (by decide) ?_
   refine VD.one rfl ?_
   refine VL.storeE (s := out3_3) (T := 9) (j := 0) (vc := [str y36_14]) (y36_14 : Str) (by decide) rfl rfl hz37_15 rfl gsz9 rfl rfl (Nat.le_of_ble_eq_true rfl) rfl (fun w16 hw16 haw16 hcw16 hvw16 hbw16 how16 => ?_)
   rw [← hvw16]
   replace hS := lt_to hw16 hS
   refine VL.back (D' := []) (by kernel_rfl) (Pend.nil) ?_
   refine VD.mt w16 [0, 3, 4] (fun _ _ h => h) hS rfl
  clear hS
  rintro out3_5 hS
  show VC _ _ _ _ _ [(0, str p_0), (3, out3_5.val), (4, i64 i4_4)] (Mo.and Mo.tt _) (Ow.star (Sv.own out3_5 9) (Ow.emp))
  refine Zr ?_
  refine Zm ?_
  obtain ⟨b13, hS⟩ := gd_s hS
  refine VL.q (q_add rfl rfl b13) (by decide) ?_
  refine Za ?_
  refine VL.rnd (out3_5, (i4_4 + 1)) [0, 3, 4] (fun _ _ h => h) (go2 hS hK1) rfl
 replace hS := it_f h11 hS
 replace hS := up2 hS hK1
 refine Zx ?_
 refine Zq (Zr ?_)
 refine Zm ?_
 refine Za ?_
 refine Zl ?_
 cases hS
 exact VC.ret (fin1 (.inr rfl) rfl rfl out3_3 rfl rfl (by (try dsimp only); exact InM.out) (by (try dsimp only); exact EntO.out))
theorem rectoref1_good_ct (c_0 : Int) {r : Bool} (hS : Sh.rectoref1_good c_0 = some r) :
 Ct Tryz.prog 241 [.int .u8 c_0] Mo.tt (Ow.emp) (X := Unit) (fun _ => .bool r) (fun _ => True) (fun _ => Mo.tt) (fun _ => Ow.emp) := by
 refine Ct.of Tryz.func241 rfl (by kernel_rfl) Tryz.ntmps241 (by simp) fun c => ?_
 unfold Sh.rectoref1_good at hS
 refine Zq (Zr ?_)
 refine Za ?_
 refine Zl ?_
 refine Zq (Zr ?_)
 refine Zm ?_
 refine VL.q (q_geq rfl rfl) (by decide) ?_
 refine Zm ?_
 refine VL.split_dec 5 rfl (fun h5 => ?_) (fun h5 => ?_)
 ·
  replace hS := it_t h5 hS
  refine Zg ?_
  refine VL.gy rfl rfl (q_leq rfl rfl) (by decide) ?_
  refine Zt ?_
  refine Zm ?_
  refine VL.split_dec 9 rfl (fun h9 => ?_) (fun h9 => ?_)
  ·
   replace hS := it_t h9 hS
   refine VL.runs 20 [(2, some true)] (by kernel_rfl) ?_
   refine Zl ?_
   cases hS
   exact Ze
  replace hS := it_f h9 hS
  refine Zg ?_
  refine VL.gy rfl rfl (q_geq rfl rfl) (by decide) ?_
  refine Zg ?_
  refine VL.split_dec 12 rfl (fun h12 => ?_) (fun h12 => ?_)
  ·
   replace hS := it_t h12 hS
   refine Zg ?_
   refine VL.gy rfl rfl (q_leq rfl rfl) (by decide) ?_
   refine VL.gy rfl rfl (q_pick_t rfl rfl) (by decide) ?_
   refine Zf ?_
   refine Zm ?_
   refine VL.split_dec 17 rfl (fun h17 => ?_) (fun h17 => ?_)
   ·
    replace hS := it_t h17 hS
    refine VL.runs 12 [(2, some true)] (by kernel_rfl) ?_
    refine Zl ?_
    refine VC.keep (ρ' := [(2, .bool true)]) [2] rfl ?_
    cases hS
    exact Ze
   replace hS := it_f h17 hS
   refine Zg ?_
   refine VL.gy rfl rfl (q_eql rfl rfl) (by decide) ?_
   refine Zf ?_
   refine Zm ?_
   refine VL.split_dec 21 rfl (fun h21 => ?_) (fun h21 => ?_)
   ·
    replace hS := it_t h21 hS
    refine VL.runs 8 [(2, some true)] (by kernel_rfl) ?_
    refine Zl ?_
    refine VC.keep (ρ' := [(2, .bool true)]) [2] rfl ?_
    cases hS
    exact Ze
   replace hS := it_f h21 hS
   refine Zg ?_
   refine VL.gy rfl rfl (q_eql rfl rfl) (by decide) ?_
   refine Zf ?_
   refine Zm ?_
   refine VL.split_dec 25 rfl (fun h25 => ?_) (fun h25 => ?_)
   ·
    replace hS := it_t h25 hS
    refine VL.runs 4 [(2, some true)] (by kernel_rfl) ?_
    refine Zl ?_
    refine VC.keep (ρ' := [(2, .bool true)]) [2] rfl ?_
    cases hS
    exact Ze
   replace hS := it_f h25 hS
   refine Zg ?_
   refine VL.gy rfl rfl (q_eql rfl rfl) (by decide) ?_
   refine Zf ?_
   refine Za ?_
   refine Zl ?_
   refine VC.keep (ρ' := [(2, .bool (decide (c_0 = 95)))]) [2] rfl ?_
   cases hS
   exact Ze
  replace hS := it_f h12 hS
  refine Zn ?_
  refine Zn ?_
  refine VL.gy rfl rfl (q_pick_f rfl rfl) (by decide) ?_
  refine Zf ?_
  refine Zm ?_
  refine Zg ?_
  refine VL.gy rfl rfl (q_eql rfl rfl) (by decide) ?_
  refine Zf ?_
  refine Zm ?_
  refine VL.split_dec 21 rfl (fun h21 => ?_) (fun h21 => ?_)
  ·
   replace hS := it_t h21 hS
   refine VL.runs 8 [(2, some true)] (by kernel_rfl) ?_
   refine Zl ?_
   refine VC.keep (ρ' := [(2, .bool true)]) [2] rfl ?_
   cases hS
   exact Ze
  replace hS := it_f h21 hS
  refine Zg ?_
  refine VL.gy rfl rfl (q_eql rfl rfl) (by decide) ?_
  refine Zf ?_
  refine Zm ?_
  refine VL.split_dec 25 rfl (fun h25 => ?_) (fun h25 => ?_)
  ·
   replace hS := it_t h25 hS
   refine VL.runs 4 [(2, some true)] (by kernel_rfl) ?_
   refine Zl ?_
   refine VC.keep (ρ' := [(2, .bool true)]) [2] rfl ?_
   cases hS
   exact Ze
  replace hS := it_f h25 hS
  refine Zg ?_
  refine VL.gy rfl rfl (q_eql rfl rfl) (by decide) ?_
  refine Zf ?_
  refine Za ?_
  refine Zl ?_
  refine VC.keep (ρ' := [(2, .bool (decide (c_0 = 95)))]) [2] rfl ?_
  cases hS
  exact Ze
 replace hS := it_f h5 hS
 refine VL.runs 4 [(9, some false)] (by kernel_rfl) ?_
 refine Zg ?_
 refine VL.gy rfl rfl (q_geq rfl rfl) (by decide) ?_
 refine Zg ?_
 refine VL.split_dec 12 rfl (fun h12 => ?_) (fun h12 => ?_)
 ·
  replace hS := it_t h12 hS
  refine Zg ?_
  refine VL.gy rfl rfl (q_leq rfl rfl) (by decide) ?_
  refine VL.gy rfl rfl (q_pick_t rfl rfl) (by decide) ?_
  refine Zf ?_
  refine Zm ?_
  refine VL.split_dec 17 rfl (fun h17 => ?_) (fun h17 => ?_)
  ·
   replace hS := it_t h17 hS
   refine VL.runs 12 [(2, some true)] (by kernel_rfl) ?_
   refine Zl ?_
   refine VC.keep (ρ' := [(2, .bool true)]) [2] rfl ?_
   cases hS
   exact Ze
  replace hS := it_f h17 hS
  refine Zg ?_
  refine VL.gy rfl rfl (q_eql rfl rfl) (by decide) ?_
  refine Zf ?_
  refine Zm ?_
  refine VL.split_dec 21 rfl (fun h21 => ?_) (fun h21 => ?_)
  ·
   replace hS := it_t h21 hS
   refine VL.runs 8 [(2, some true)] (by kernel_rfl) ?_
   refine Zl ?_
   refine VC.keep (ρ' := [(2, .bool true)]) [2] rfl ?_
   cases hS
   exact Ze
  replace hS := it_f h21 hS
  refine Zg ?_
  refine VL.gy rfl rfl (q_eql rfl rfl) (by decide) ?_
  refine Zf ?_
  refine Zm ?_
  refine VL.split_dec 25 rfl (fun h25 => ?_) (fun h25 => ?_)
  ·
   replace hS := it_t h25 hS
   refine VL.runs 4 [(2, some true)] (by kernel_rfl) ?_
   refine Zl ?_
   refine VC.keep (ρ' := [(2, .bool true)]) [2] rfl ?_
   cases hS
   exact Ze
  replace hS := it_f h25 hS
  refine Zg ?_
  refine VL.gy rfl rfl (q_eql rfl rfl) (by decide) ?_
  refine Zf ?_
  refine Za ?_
  refine Zl ?_
  refine VC.keep (ρ' := [(2, .bool (decide (c_0 = 95)))]) [2] rfl ?_
  cases hS
  exact Ze
 replace hS := it_f h12 hS
 refine Zn ?_
 refine Zn ?_
 refine VL.gy rfl rfl (q_pick_f rfl rfl) (by decide) ?_
 refine Zf ?_
 refine Zm ?_
 refine Zg ?_
 refine VL.gy rfl rfl (q_eql rfl rfl) (by decide) ?_
 refine Zf ?_
 refine Zm ?_
 refine VL.split_dec 21 rfl (fun h21 => ?_) (fun h21 => ?_)
 ·
  replace hS := it_t h21 hS
  refine VL.runs 8 [(2, some true)] (by kernel_rfl) ?_
  refine Zl ?_
  refine VC.keep (ρ' := [(2, .bool true)]) [2] rfl ?_
  cases hS
  exact Ze
 replace hS := it_f h21 hS
 refine Zg ?_
 refine VL.gy rfl rfl (q_eql rfl rfl) (by decide) ?_
 refine Zf ?_
 refine Zm ?_
 refine VL.split_dec 25 rfl (fun h25 => ?_) (fun h25 => ?_)
 ·
  replace hS := it_t h25 hS
  refine VL.runs 4 [(2, some true)] (by kernel_rfl) ?_
  refine Zl ?_
  refine VC.keep (ρ' := [(2, .bool true)]) [2] rfl ?_
  cases hS
  exact Ze
 replace hS := it_f h25 hS
 refine Zg ?_
 refine VL.gy rfl rfl (q_eql rfl rfl) (by decide) ?_
 refine Zf ?_
 refine Za ?_
 refine Zl ?_
 refine VC.keep (ρ' := [(2, .bool (decide (c_0 = 95)))]) [2] rfl ?_
 cases hS
 exact Ze
end Go.Proofs.YthbccdlpalenlaaGreatDoor
end

section
set_option linter.unusedVariables false
namespace Go.Proofs.YthbccdlpalenlaaGreatDoor
set_option maxHeartbeats 4000000
set_option maxRecDepth 100000
open Go.RowKit Go.V
open Go.S hiding Str
theorem rectoref1_Check_ct (p_0 : Str) {r : Int} (hS : Sh.rectoref1_Check p_0 = some r) :
 Ct Tryz.prog 196 [str p_0] Mo.tt (Ow.emp) (X := Unit) (fun _ => i64 r) (fun _ => True) (fun _ => Mo.tt) (fun _ => Ow.emp) := by
 refine Ct.of Tryz.func196 rfl (by kernel_rfl) Tryz.ntmps196 (by simp) fun c => ?_
 unfold Sh.rectoref1_Check at hS
 refine Zq (Zr ?_)
 refine Za ?_
 refine Zl ?_
 refine Zq (Zq (Zr ?_))
 refine Zm ?_
 refine VL.q (q_slen Tryz.underlying9 rfl) (by decide) ?_
 refine VL.q (q_gtr rfl rfl) (by decide) ?_
 refine Zl ?_
 refine VC.cond_dec rfl (fun h8 => ?_) (fun h8 => ?_)
 ·
  replace hS := it_t h8 hS
  refine Zq (Zr ?_)
  refine Za ?_
  refine Zl ?_
  cases hS
  exact Ze
 replace hS := it_f h8 hS
 refine Zk ?_
 refine Zq (Zr ?_)
 refine Zm ?_
 obtain ⟨y10_1, ey10_1, hS⟩ := bd_s hS
 refine VL.callO (rectoref1_Parts_ct p_0 ey10_1) rfl (by decide) ?_
 rintro q10_1_0 rfl
 try dsimp only
 refine Za ?_
 refine Zl ?_
 refine Zq (Zq (Zr ?_))
 refine Zm ?_
 refine VL.q (q_ln (s := q10_1_0) Tryz.underlying89 rfl) (by decide) ?_
 refine VL.q (q_eql rfl rfl) (by decide) ?_
 refine Zl ?_
 refine VC.keep (ρ' := [(3, q10_1_0.val), (13, .bool (decide ((q10_1_0.l.length : Int) = 0)))]) [3, 13] rfl ?_
 refine VC.cond_dec rfl (fun h13 => ?_) (fun h13 => ?_)
 ·
  replace hS := it_t h13 hS
  refine Zq (Zr ?_)
  refine Za ?_
  refine Zl ?_
  cases hS
  exact Ze
 replace hS := it_f h13 hS
 refine Zk ?_
 refine Zq (Zq (Zr ?_))
 refine Za ?_
 refine Zl ?_
 refine Zb ?_
 refine VC.iter (S := Int) (fun (i4_2 : Int) => i4_2) (fun (i4_2 : Int) => [(3, q10_1_0.val), (4, i64 i4_2)]) (fun (i4_2 : Int) => Mo.tt) (fun (i4_2 : Int) => Ow.star (Sv.own q10_1_0 9) (Ow.emp)) 0 [3, 4] hS rfl ?_
 clear hS
 rintro i4_2 m1 y1 hS hK1
 show VC _ _ _ _ _ [(3, q10_1_0.val), (4, i64 i4_2)] (Mo.and Mo.tt _) (Ow.star (Sv.own q10_1_0 9) (Ow.emp))
 refine Zq (Zq (Zr ?_))
 refine Zm ?_
 refine Zm ?_
 refine VL.q (q_ln (s := q10_1_0) Tryz.underlying89 rfl) (by decide) ?_
 refine VL.q (q_lss rfl rfl) (by decide) ?_
 refine Zl ?_
 refine VC.cond_dec rfl (fun h17 => ?_) (fun h17 => ?_)
 ·
  replace hS := it_t h17 hS
  refine Zk ?_
  refine VC.cutJ (S := Unit) (fun (_ : Unit) => ()) (fun (_ : Unit) => [(3, q10_1_0.val), (4, i64 i4_2)]) (fun (_ : Unit) => Mo.tt) (fun (_ : Unit) => Ow.star (Sv.own q10_1_0 9) (Ow.emp)) hS ?_ ?_
  ·
   clear hS
   intro k3 hS
   refine Zb (Zq ?_)
   refine VC.cutJ (S := Bool) (fun (x38_4 : Bool) => x38_4) (fun (x38_4 : Bool) => [(3, q10_1_0.val), (4, i64 i4_2), (38, .bool x38_4)]) (fun (x38_4 : Bool) => Mo.tt) (fun (x38_4 : Bool) => Ow.star (Sv.own q10_1_0 9) (Ow.emp)) hS ?_ ?_
   ·
    clear hS
    intro k5 hS
    refine Zr ?_
    refine Zm ?_
    refine Zm ?_
    obtain ⟨z22_6, nz22_6, hz22_6, hS⟩ := at_s hS
    refine VL.q (q_ixo (s := q10_1_0) Tryz.underlying89 gsz9 rfl rfl nz22_6 (lt_of_get nz22_6 hz22_6)) (by decide) ?_
    refine VL.q (q_elo (s := q10_1_0) 9 gone9 rfl hz22_6 rfl) (by decide) ?_
    refine Zs ?_
    refine Zm ?_
    refine VL.split_dec 25 rfl (fun h25 => ?_) (fun h25 => ?_)
    ·
     replace hS := it_t h25 hS
     refine VL.runs 13 [(38, some true)] (by kernel_rfl) ?_
     refine VL.mt true [3, 4, 38] (fun _ _ h => h) hS rfl
    replace hS := it_f h25 hS
    refine Zg ?_
    refine Zg ?_
    obtain ⟨z28_7, nz28_7, hz28_7, hS⟩ := at_s hS
    refine VL.gy rfl rfl (q_ixo (s := q10_1_0) Tryz.underlying89 gsz9 rfl rfl nz28_7 (lt_of_get nz28_7 hz28_7)) (by decide) ?_
    refine VL.gy rfl rfl (q_elo (s := q10_1_0) 9 gone9 rfl hz28_7 rfl) (by decide) ?_
    refine VL.gy rfl rfl (q_seq rfl rfl) (by decide) ?_
    refine Zf ?_
    refine Zm ?_
    refine VL.split_dec 32 rfl (fun h32 => ?_) (fun h32 => ?_)
    ·
     replace hS := it_t h32 hS
     refine VL.runs 6 [(38, some true)] (by kernel_rfl) ?_
     refine VL.mt true [3, 4, 38] (fun _ _ h => h) hS rfl
    replace hS := it_f h32 hS
    refine Zg ?_
    refine Zg ?_
    obtain ⟨z35_8, nz35_8, hz35_8, hS⟩ := at_s hS
    refine VL.gy rfl rfl (q_ixo (s := q10_1_0) Tryz.underlying89 gsz9 rfl rfl nz35_8 (lt_of_get nz35_8 hz35_8)) (by decide) ?_
    refine VL.gy rfl rfl (q_elo (s := q10_1_0) 9 gone9 rfl hz35_8 rfl) (by decide) ?_
    refine VL.gy rfl rfl (q_seq rfl rfl) (by decide) ?_
    refine Zf ?_
    refine VL.mt (decide (z35_8 = [46, 46])) [3, 4, 38] (fun _ _ h => h) hS rfl
   clear hS
   rintro x38_4 hS
   show VC _ _ _ _ _ [(3, q10_1_0.val), (4, i64 i4_2), (38, .bool x38_4)] (Mo.and Mo.tt _) (Ow.star (Sv.own q10_1_0 9) (Ow.emp))
   refine VC.cond rfl (fun h38 => ?_) (fun h38 => ?_)
   ·
    replace hS := it_t h38 hS
    refine Zq (Zr ?_)
    refine Za ?_
    refine Zl ?_
    replace hS := up2 hS hK1
    cases hS
    exact Ze
   replace hS := it_b h38 hS
   refine Zk ?_
   refine Zq (Zr ?_)
   refine Za ?_
   refine Zl ?_
   refine Zb ?_
   refine VC.iter (S := Int) (fun (k5_9 : Int) => k5_9) (fun (k5_9 : Int) => [(3, q10_1_0.val), (4, i64 i4_2), (5, i64 k5_9)]) (fun (k5_9 : Int) => Mo.tt) (fun (k5_9 : Int) => Ow.star (Sv.own q10_1_0 9) (Ow.emp)) 0 [3, 4, 5] hS rfl ?_
   clear hS
   rintro k5_9 m2 y2 hS hK2
   show VC _ _ _ _ _ [(3, q10_1_0.val), (4, i64 i4_2), (5, i64 k5_9)] (Mo.and Mo.tt _) (Ow.star (Sv.own q10_1_0 9) (Ow.emp))
   refine Zq (Zq (Zr ?_))
   refine Zm ?_
   refine Zm ?_
   refine Zm ?_
   obtain ⟨z42_10, nz42_10, hz42_10, hS⟩ := at_s hS
   refine VL.q (q_ixo (s := q10_1_0) Tryz.underlying89 gsz9 rfl rfl nz42_10 (lt_of_get nz42_10 hz42_10)) (by decide) ?_
   refine VL.q (q_elo (s := q10_1_0) 9 gone9 rfl hz42_10 rfl) (by decide) ?_
   refine VL.q (q_slen Tryz.underlying9 rfl) (by decide) ?_
   refine VL.q (q_lss rfl rfl) (by decide) ?_
   refine Zl ?_
   refine VC.cond_dec rfl (fun h45 => ?_) (fun h45 => ?_)
   ·
    replace hS := it_t h45 hS
    refine Zk ?_
    refine Zq (Zb (Zq (Zr ?_)))
    refine Zm ?_
    refine Zm ?_
    obtain ⟨z50_11, nz50_11, hz50_11, hS⟩ := at_s hS
    refine VL.q (q_ixo (s := q10_1_0) Tryz.underlying89 gsz9 rfl rfl nz50_11 (lt_of_get nz50_11 hz50_11)) (by decide) ?_
    refine VL.q (q_elo (s := q10_1_0) 9 gone9 rfl hz50_11 rfl) (by decide) ?_
    refine Zm ?_
    obtain ⟨z53_12, nz53_12, hz53_12, hS⟩ := at_s hS
    refine VL.q (q_sidx Tryz.underlying9 rfl rfl nz53_12 hz53_12) (by decide) ?_
    obtain ⟨y54_13, ey54_13, hS⟩ := bd_s hS
    refine VL.q (q_call (rectoref1_good_ct (z53_12.toNat : Int) ey54_13) rfl (fun _ _ => rfl)) (by decide) ?_
    refine VL.q (q_not rfl) (by decide) ?_
    refine Zl ?_
    refine VC.keep (ρ' := [(3, q10_1_0.val), (4, i64 i4_2), (5, i64 k5_9), (55, .bool (!y54_13))]) [3, 4, 5, 55] rfl ?_
    refine VC.cond rfl (fun h55 => ?_) (fun h55 => ?_)
    ·
     replace hS := it_t h55 hS
     refine Zq (Zr ?_)
     refine Za ?_
     refine Zl ?_
     replace hS := up2 hS hK2
     replace hS := up2 hS hK1
     cases hS
     exact Ze
    replace hS := it_b h55 hS
    refine Zk ?_
    refine Zr ?_
    refine Zm ?_
    obtain ⟨b47, hS⟩ := gd_s hS
    refine VL.q (q_add rfl rfl b47) (by decide) ?_
    refine Za ?_
    refine VL.rnd (k5_9 + 1) [3, 4, 5] (fun _ _ h => h) (go2 hS hK2) rfl
   replace hS := it_f h45 hS
   replace hS := up2 hS hK2
   refine VC.exit_mt () [3, 4] (fun _ _ h => h) hS rfl
  clear hS
  rintro _ hS
  show VC _ _ _ _ _ [(3, q10_1_0.val), (4, i64 i4_2)] (Mo.and Mo.tt _) (Ow.star (Sv.own q10_1_0 9) (Ow.emp))
  refine Zr ?_
  refine Zm ?_
  obtain ⟨b19, hS⟩ := gd_s hS
  refine VL.q (q_add rfl rfl b19) (by decide) ?_
  refine Za ?_
  refine VL.rnd (i4_2 + 1) [3, 4] (fun _ _ h => h) (go2 hS hK1) rfl
 replace hS := it_f h17 hS
 replace hS := up2 hS hK1
 refine Zx ?_
 refine Zq (Zr ?_)
 refine Za ?_
 refine Zl ?_
 cases hS
 exact Ze
theorem rectoref1_Under_ct (p_0 : Str) (dir_1 : Str) {r : Bool} (hS : Sh.rectoref1_Under p_0 dir_1 = some r) :
 Ct Tryz.prog 232 [str p_0, str dir_1] Mo.tt (Ow.emp) (X := Unit) (fun _ => .bool r) (fun _ => True) (fun _ => Mo.tt) (fun _ => Ow.emp) := by
 refine Ct.of Tryz.func232 rfl (by kernel_rfl) Tryz.ntmps232 (by simp) fun c => ?_
 unfold Sh.rectoref1_Under at hS
 refine Zq (Zr ?_)
 refine Za ?_
 refine Zl ?_
 refine Zq (Zq (Zr ?_))
 refine Zm ?_
 refine Zs ?_
 refine Zl ?_
 refine VC.cond_dec rfl (fun h6 => ?_) (fun h6 => ?_)
 ·
  replace hS := it_t h6 hS
  refine Zq (Zr ?_)
  refine Zm ?_
  refine VL.q (q_sne rfl rfl) (by decide) ?_
  refine Za ?_
  refine Zl ?_
  cases hS
  exact Ze
 replace hS := it_f h6 hS
 refine Zk ?_
 refine Zq (Zr ?_)
 refine Zm ?_
 refine VL.q (q_slen Tryz.underlying9 rfl) (by decide) ?_
 refine Zm ?_
 refine VL.q (q_slen Tryz.underlying9 rfl) (by decide) ?_
 obtain ⟨b13, hS⟩ := gd_s hS
 refine VL.q (q_add rfl rfl b13) (by decide) ?_
 refine VL.q (q_gtr rfl rfl) (by decide) ?_
 refine Zm ?_
 refine VL.split_dec 15 rfl (fun h15 => ?_) (fun h15 => ?_)
 ·
  replace hS := it_t h15 hS
  refine Zg ?_
  refine Zg ?_
  refine VL.gy rfl rfl (q_slen Tryz.underlying9 rfl) (by decide) ?_
  obtain ⟨b19, hS⟩ := gd_s hS
  obtain ⟨y19_1, ey19_1, hS⟩ := lt_s hS
  refine VL.gy rfl rfl (q_stoE Tryz.underlying9 rfl rfl b19.1 b19.2 ey19_1) (by decide) ?_
  refine Zg ?_
  refine VL.gy rfl rfl (q_seq rfl rfl) (by decide) ?_
  refine Zt ?_
  refine Zm ?_
  refine VL.split_dec 23 rfl (fun h23 => ?_) (fun h23 => ?_)
  ·
   replace hS := it_t h23 hS
   refine Zg ?_
   refine Zg ?_
   refine VL.gy rfl rfl (q_slen Tryz.underlying9 rfl) (by decide) ?_
   obtain ⟨z27_2, nz27_2, hz27_2, hS⟩ := at_s hS
   refine VL.gy rfl rfl (q_sidx Tryz.underlying9 rfl rfl nz27_2 hz27_2) (by decide) ?_
   refine VL.gy rfl rfl (q_eql rfl rfl) (by decide) ?_
   refine Zt ?_
   refine Za ?_
   refine Zl ?_
   refine VC.keep (ρ' := [(4, .bool (decide ((z27_2.toNat : Int) = 47)))]) [4] rfl ?_
   cases hS
   exact Ze
  replace hS := it_f h23 hS
  refine VL.runs 7 [(4, some false)] (by kernel_rfl) ?_
  refine Zl ?_
  refine VC.keep (ρ' := [(4, .bool false)]) [4] rfl ?_
  cases hS
  exact Ze
 replace hS := it_f h15 hS
 refine VL.runs 15 [(4, some false)] (by kernel_rfl) ?_
 refine Zl ?_
 refine VC.keep (ρ' := [(4, .bool false)]) [4] rfl ?_
 cases hS
 exact Ze
theorem rectoref1_Clash_ct (a_0 : Str) (b_1 : Str) {r : Bool} (hS : Sh.rectoref1_Clash a_0 b_1 = some r) :
 Ct Tryz.prog 186 [str a_0, str b_1] Mo.tt (Ow.emp) (X := Unit) (fun _ => .bool r) (fun _ => True) (fun _ => Mo.tt) (fun _ => Ow.emp) := by
 refine Ct.of Tryz.func186 rfl (by kernel_rfl) Tryz.ntmps186 (by simp) fun c => ?_
 unfold Sh.rectoref1_Clash at hS
 refine Zq (Zr ?_)
 refine Za ?_
 refine Zl ?_
 refine Zq (Zr ?_)
 refine Zm ?_
 refine VL.q (q_sne rfl rfl) (by decide) ?_
 refine Zm ?_
 refine VL.split_ndec 7 rfl (fun h7 => ?_) (fun h7 => ?_)
 ·
  replace hS := it_f h7 hS
  refine Zg ?_
  refine VL.gy rfl rfl (q_sne rfl rfl) (by decide) ?_
  refine Zt ?_
  refine Zm ?_
  refine VL.split_ndec 11 rfl (fun h11 => ?_) (fun h11 => ?_)
  ·
   replace hS := it_f h11 hS
   refine Zg ?_
   refine Zg ?_
   obtain ⟨y14_1, ey14_1, hS⟩ := bd_s hS
   refine VL.gy rfl rfl (q_call (rectoref1_Under_ct a_0 b_1 ey14_1) rfl (fun _ _ => rfl)) (by decide) ?_
   refine Zg ?_
   refine VL.split 15 rfl (fun h15 => ?_) (fun h15 => ?_)
   ·
    replace hS := it_t h15 hS
    refine VL.runs 3 [(18, none)] (by kernel_rfl) ?_
    refine VL.gy rfl rfl (q_pick_t rfl rfl) (by decide) ?_
    refine Zt ?_
    refine Za ?_
    refine Zl ?_
    refine VC.keep (ρ' := [(4, .bool true)]) [4] rfl ?_
    cases hS
    exact Ze
   replace hS := it_b h15 hS
   refine Zg ?_
   refine Zg ?_
   obtain ⟨y18_2, ey18_2, hS⟩ := bd_s hS
   refine VL.gy rfl rfl (q_call (rectoref1_Under_ct b_1 a_0 ey18_2) rfl (fun _ _ => rfl)) (by decide) ?_
   refine VL.gy rfl rfl (q_pick_f rfl rfl) (by decide) ?_
   refine Zt ?_
   refine Za ?_
   refine Zl ?_
   refine VC.keep (ρ' := [(4, .bool y18_2)]) [4] rfl ?_
   cases hS
   exact Ze
  replace hS := it_t h11 hS
  refine VL.runs 10 [(4, some false)] (by kernel_rfl) ?_
  refine Zl ?_
  cases hS
  exact Ze
 replace hS := it_t h7 hS
 refine VL.runs 14 [(4, some false)] (by kernel_rfl) ?_
 refine Zl ?_
 cases hS
 exact Ze
theorem rectoref7_item_ct (l_0 : Sv Rectoref7Item) (i_1 : Int) {r : Int} (hS : Sh.rectoref7_item l_0.l i_1 = some r) :
 Ct Tryz.prog 133 [l_0.val, i64 i_1] l_0.ok (Ow.emp) (X := Unit) (fun _ => i64 r) (fun _ => True) (fun _ => Mo.tt) (fun _ => Ow.emp) := by
 refine Ct.of Tryz.func133 rfl (by kernel_rfl) Tryz.ntmps133 (by simp) fun c => ?_
 unfold Sh.rectoref7_item at hS
 refine Zq (Zr ?_)
 refine Za ?_
 refine Zl ?_
 refine Zq (Zr ?_)
 refine Zm ?_
 refine Zm ?_
 obtain ⟨z10_1, nz10_1, hz10_1, hS⟩ := at_s hS
 refine VL.q (q_ixm (s := l_0) Tryz.underlying37 gsz142 rfl rfl nz10_1 (lt_of_get nz10_1 hz10_1)) (by decide) ?_
 refine VL.q (q_els (s := l_0) gagg142 rfl rfl hz10_1) (by decide) ?_
 refine VL.alloc (cs := [str [], i64 0, i64 0]) (by kernel_rfl) (by decide) fun b5_2 => ?_
 refine VL.store (vc := [str z10_1.path, i64 z10_1.mode, i64 z10_1.blob]) (cs' := [str z10_1.path, i64 z10_1.mode, i64 z10_1.blob]) rfl rfl rfl gsz142 rfl rfl (Nat.le_of_ble_eq_true rfl) rfl ?_
 refine Zl ?_
 refine Zq (Zr ?_)
 refine VL.q (q_field gfa142_0 rfl) (by decide) ?_
 refine VL.q (q_fe gone9 rfl rfl) (by decide) ?_
 obtain ⟨y14_3, ey14_3, hS⟩ := bd_s hS
 refine VL.q (q_call (rectoref1_Check_ct z10_1.path ey14_3) rfl (fun _ _ => rfl)) (by decide) ?_
 refine Za ?_
 refine Zl ?_
 refine VC.keep (ρ' := [(0, l_0.val), (1, i64 i_1), (5, ptr b5_2 0), (6, i64 y14_3)]) [0, 1, 5, 6] rfl ?_
 refine Zq (Zb (Zq (Zr ?_)))
 refine Zm ?_
 refine VL.q (q_neq rfl rfl) (by decide) ?_
 refine Za ?_
 refine Zl ?_
 refine VC.cond_ndec rfl (fun h15 => ?_) (fun h15 => ?_)
 ·
  replace hS := it_f h15 hS
  refine Zq (Zr ?_)
  refine Zm ?_
  refine Za ?_
  refine Zl ?_
  cases hS
  exact Ze
 replace hS := it_t h15 hS
 refine VC.cutJ (S := Bool) (fun (x19_4 : Bool) => x19_4) (fun (x19_4 : Bool) => [(0, l_0.val), (1, i64 i_1), (5, ptr b5_2 0), (19, .bool x19_4)]) (fun (x19_4 : Bool) => Mo.tt) (fun (x19_4 : Bool) => Ow.star (Blk b5_2 [str z10_1.path, i64 z10_1.mode, i64 z10_1.blob] 142) (Ow.emp)) hS ?_ ?_
 ·
  clear hS
  intro k5 hS
  refine Zr ?_
  refine VL.q (q_field gfa142_1 rfl) (by decide) ?_
  refine VL.q (q_fe gone3 rfl rfl) (by decide) ?_
  refine VL.q (q_neq rfl rfl) (by decide) ?_
  refine Zm ?_
  refine VL.split_ndec 23 rfl (fun h23 => ?_) (fun h23 => ?_)
  ·
   replace hS := it_f h23 hS
   refine VL.gy rfl rfl (q_field gfa142_1 rfl) (by decide) ?_
   refine VL.gy rfl rfl (q_fe gone3 rfl rfl) (by decide) ?_
   refine VL.gy rfl rfl (q_neq rfl rfl) (by decide) ?_
   refine Zt ?_
   refine Zm ?_
   refine VL.split_ndec 28 rfl (fun h28 => ?_) (fun h28 => ?_)
   ·
    replace hS := it_f h28 hS
    refine VL.runs 5 [(19, some true)] (by kernel_rfl) ?_
    refine VL.mt true [0, 1, 5, 19] (fun _ _ h => h) hS rfl
   replace hS := it_t h28 hS
   refine VL.gy rfl rfl (q_field gfa142_2 rfl) (by decide) ?_
   refine VL.gy rfl rfl (q_fe gone3 rfl rfl) (by decide) ?_
   refine VL.gy rfl rfl (q_lss rfl rfl) (by decide) ?_
   refine Zf ?_
   refine Za ?_
   refine VL.mt (decide (z10_1.blob < 1)) [0, 1, 5, 19] (fun _ _ h => h) hS rfl
  replace hS := it_t h23 hS
  refine VL.runs 5 [(28, some false)] (by kernel_rfl) ?_
  refine VL.gy rfl rfl (q_field gfa142_2 rfl) (by decide) ?_
  refine VL.gy rfl rfl (q_fe gone3 rfl rfl) (by decide) ?_
  refine VL.gy rfl rfl (q_lss rfl rfl) (by decide) ?_
  refine Zf ?_
  refine Za ?_
  refine VL.mt (decide (z10_1.blob < 1)) [0, 1, 5, 19] (fun _ _ h => h) hS rfl
 clear hS
 rintro x19_4 hS
 show VC _ _ _ _ _ [(0, l_0.val), (1, i64 i_1), (5, ptr b5_2 0), (19, .bool x19_4)] (Mo.and Mo.tt _) (Ow.star (Blk b5_2 [str z10_1.path, i64 z10_1.mode, i64 z10_1.blob] 142) (Ow.emp))
 refine VC.cond rfl (fun h19 => ?_) (fun h19 => ?_)
 ·
  replace hS := it_t h19 hS
  refine Zq (Zr ?_)
  refine Za ?_
  refine Zl ?_
  cases hS
  exact Ze
 replace hS := it_b h19 hS
 refine VC.cutJ (S := Bool) (fun (x33_6 : Bool) => x33_6) (fun (x33_6 : Bool) => [(0, l_0.val), (1, i64 i_1), (5, ptr b5_2 0), (33, .bool x33_6)]) (fun (x33_6 : Bool) => Mo.tt) (fun (x33_6 : Bool) => Ow.star (Blk b5_2 [str z10_1.path, i64 z10_1.mode, i64 z10_1.blob] 142) (Ow.emp)) hS ?_ ?_
 ·
  clear hS
  intro k7 hS
  refine VC.draw ((List.range 14).map fun k => (k, true)) mixed (by kernel_rfl) (by kernel_rfl) (by kernel_rfl) ?_
  refine VD.q rfl (q_move rfl) (by decide) ?_
  refine VD.q rfl (q_gtr rfl rfl) (by decide) ?_
  refine VD.q rfl (q_move rfl) (by decide) ?_
  refine VD.split_dec 36 rfl (fun h36 => ?_) (fun h36 => ?_)
  ·
   replace hS := it_t h36 hS
   refine VD.gy rfl rfl rfl (q_move rfl) (by decide) ?_
   refine VD.gy rfl rfl rfl (q_move rfl) (by decide) ?_
   obtain ⟨b39, hS⟩ := gd_s hS
   refine VD.gy rfl rfl rfl (q_sub rfl rfl b39) (by decide) ?_
   obtain ⟨z40_8, nz40_8, hz40_8, hS⟩ := at_s hS
   refine VD.gy rfl rfl rfl (q_ixm (s := l_0) Tryz.underlying37 gsz142 rfl rfl nz40_8 (lt_of_get nz40_8 hz40_8)) (by decide) ?_
   refine VD.gy rfl rfl rfl (q_field gfa142_0 rfl) (by decide) ?_
   refine VD.gy rfl rfl rfl (q_elf (s := l_0) gone9 rfl hz40_8 rfl) (by decide) ?_
   refine VD.gy rfl rfl rfl (q_field gfa142_0 rfl) (by decide) ?_
   refine VD.gy rfl rfl rfl (q_fe gone9 rfl rfl) (by decide) ?_
   refine VD.gy rfl rfl rfl (q_sgeq rfl rfl) (by decide) ?_
   refine VD.q rfl (q_pick_t rfl rfl) (by decide) ?_
   refine VD.q rfl (q_assign rfl) (by decide) ?_
   refine VD.mt (!Op.bytesLess z40_8.path z10_1.path) [0, 1, 5, 33] (fun _ _ h => h) hS rfl
  replace hS := it_f h36 hS
  refine Zd ?_
  refine Zd ?_
  refine Zd ?_
  refine Zd ?_
  refine Zd ?_
  refine Zd ?_
  refine Zd ?_
  refine Zd ?_
  refine Zd ?_
  refine VD.q rfl (q_pick_f rfl rfl) (by decide) ?_
  refine VD.q rfl (q_assign rfl) (by decide) ?_
  refine VD.mt false [0, 1, 5, 33] (fun _ _ h => h) hS rfl
 clear hS
 rintro x33_6 hS
 show VC _ _ _ _ _ [(0, l_0.val), (1, i64 i_1), (5, ptr b5_2 0), (33, .bool x33_6)] (Mo.and Mo.tt _) (Ow.star (Blk b5_2 [str z10_1.path, i64 z10_1.mode, i64 z10_1.blob] 142) (Ow.emp))
 refine VC.cond rfl (fun h33 => ?_) (fun h33 => ?_)
 ·
  replace hS := it_t h33 hS
  refine Zq (Zr ?_)
  refine Za ?_
  refine Zl ?_
  cases hS
  exact Ze
 replace hS := it_b h33 hS
 refine Zk ?_
 refine Zq (Zq (Zr ?_))
 refine Za ?_
 refine Zl ?_
 refine Zb ?_
 refine VC.iter (S := Int) (fun (k7_9 : Int) => k7_9) (fun (k7_9 : Int) => [(0, l_0.val), (1, i64 i_1), (5, ptr b5_2 0), (7, i64 k7_9)]) (fun (k7_9 : Int) => Mo.tt) (fun (k7_9 : Int) => Ow.star (Blk b5_2 [str z10_1.path, i64 z10_1.mode, i64 z10_1.blob] 142) (Ow.emp)) 0 [0, 1, 5, 7] hS rfl ?_
 clear hS
 rintro k7_9 m1 y1 hS hK1
 show VC _ _ _ _ _ [(0, l_0.val), (1, i64 i_1), (5, ptr b5_2 0), (7, i64 k7_9)] (Mo.and Mo.tt _) (Ow.star (Blk b5_2 [str z10_1.path, i64 z10_1.mode, i64 z10_1.blob] 142) (Ow.emp))
 refine Zq (Zq (Zr ?_))
 refine Zm ?_
 refine Zm ?_
 refine VL.q (q_lss rfl rfl) (by decide) ?_
 refine Zl ?_
 refine VC.cond_dec rfl (fun h49 => ?_) (fun h49 => ?_)
 ·
  replace hS := it_t h49 hS
  refine Zk ?_
  refine Zq (Zb (Zq ?_))
  refine VC.draw ((List.range 8).map fun k => (k, true)) mixed (by kernel_rfl) (by kernel_rfl) (by kernel_rfl) ?_
  refine VD.q rfl (q_move rfl) (by decide) ?_
  refine VD.q rfl (q_move rfl) (by decide) ?_
  obtain ⟨z54_10, nz54_10, hz54_10, hS⟩ := at_s hS
  refine VD.q rfl (q_ixm (s := l_0) Tryz.underlying37 gsz142 rfl rfl nz54_10 (lt_of_get nz54_10 hz54_10)) (by decide) ?_
  refine VD.q rfl (q_field gfa142_0 rfl) (by decide) ?_
  refine VD.q rfl (q_elf (s := l_0) gone9 rfl hz54_10 rfl) (by decide) ?_
  refine VD.q rfl (q_field gfa142_0 rfl) (by decide) ?_
  refine VD.q rfl (q_fe gone9 rfl rfl) (by decide) ?_
  obtain ⟨y59_11, ey59_11, hS⟩ := bd_s hS
  refine VD.q rfl (q_call (rectoref1_Clash_ct z54_10.path z10_1.path ey59_11) rfl (fun _ _ => rfl)) (by decide) ?_
  refine VD.to (fun _ _ h => h) ?_
  refine VC.keep (ρ' := [(0, l_0.val), (1, i64 i_1), (5, ptr b5_2 0), (7, i64 k7_9), (59, .bool y59_11)]) [0, 1, 5, 7, 59] rfl ?_
  refine VC.cond rfl (fun h59 => ?_) (fun h59 => ?_)
  ·
   replace hS := it_t h59 hS
   refine Zq (Zr ?_)
   refine Za ?_
   refine Zl ?_
   replace hS := up2 hS hK1
   cases hS
   exact Ze
  replace hS := it_b h59 hS
  refine Zk ?_
  refine Zr ?_
  refine Zm ?_
  obtain ⟨b51, hS⟩ := gd_s hS
  refine VL.q (q_add rfl rfl b51) (by decide) ?_
  refine Za ?_
  refine VL.rnd (k7_9 + 1) [0, 1, 5, 7] (fun _ _ h => h) (go2 hS hK1) rfl
 replace hS := it_f h49 hS
 replace hS := up2 hS hK1
 refine Zx ?_
 refine Zq (Zr ?_)
 refine Za ?_
 refine Zl ?_
 cases hS
 exact Ze
theorem rectoref3_In_ct (word_0 : Str) (at_1 : Int) (w_2 : Rectoref3Wrong) {r : Rectoref3WrongP} (hS : Sh.rectoref3_In word_0 at_1 w_2.pl = some r) :
 Ct Tryz.prog 105 [str word_0, i64 at_1, .agg #[w_2.parts.val, i64 w_2.err]] w_2.parts.ok (Ow.emp) (X := Rectoref3Wrong) (fun x => .agg (Dat.enc x).toArray) (fun x => r = x.pl) (fun x => x.m) (fun x => Ow.emp) := by
 refine Ct.of Tryz.func105 rfl (by kernel_rfl) Tryz.ntmps105 (by simp) fun c => ?_
 unfold Sh.rectoref3_In at hS
 refine Zq (Zr ?_)
 refine VL.box (cs := [w_2.parts.val, i64 w_2.err]) rfl rfl (by decide) fun b5_1 => ?_
 refine VL.alloc (cs := [.slice none 0 0, i64 0]) (by kernel_rfl) (by decide) fun b6_2 => ?_
 refine Zl ?_
 refine Zq ?_
 refine VC.draw [(0, true), (1, true), (2, true), (4, true), (5, true), (7, true), (8, true), (3, false), (6, false), (9, true), (10, false)] mixed (by kernel_rfl) (by kernel_rfl) (by kernel_rfl) ?_
 refine VD.q rfl (q_move rfl) (by decide) ?_
 refine VD.q rfl (q_move rfl) (by decide) ?_
 refine VD.q rfl (q_build (vs := [(0, str word_0), (1, i64 at_1)]) (cs := #[str word_0, i64 at_1]) rfl (by kernel_rfl)) (by decide) ?_
 refine VD.q rfl (q_field gfa43_0 rfl) (by decide) ?_
 refine VD.q rfl (q_fe gone41 rfl rfl) (by decide) ?_
 refine VD.q rfl (q_field gfa43_1 rfl) (by decide) ?_
 refine VD.q rfl (q_fe gone3 rfl rfl) (by decide) ?_
 refine VD.one rfl ?_
 refine VL.litO (α := Rectoref3Part) (xs := [.tmp 9]) (vs := [.agg #[str word_0, i64 at_1]]) [⟨word_0, at_1⟩] Tryz.underlying41 glit196 (by decide) rfl rfl rfl rfl (by decide) (by decide) (fun s10_3 hs10_3 => ?_) (by decide)
 replace hS := lt_to hs10_3 hS
 refine VL.back (D' := [(8, i64 w_2.err), (7, ptr b5_1 1), (5, w_2.parts.val), (4, ptr b5_1 0)]) (by kernel_rfl) (Pend.cons rfl (q_fe gone3 rfl rfl) (Pend.cons rfl (q_field gfa43_1 rfl) (Pend.cons rfl (q_fe gone41 rfl rfl) (Pend.cons rfl (q_field gfa43_0 rfl) (Pend.nil))))) ?_
 refine VD.one rfl ?_
 obtain ⟨b13, hS⟩ := gd_s hS
 refine VL.app (s := s10_3) (r := w_2.parts) Tryz.underlying41 gapp196 (by decide) rfl Fo.out (ap1 b13) (ap2 b13 (by decide)) (by decide) (fun s13_5 hs13_5 => ?_)
 replace hS := lt_to hs13_5 hS
 refine VL.back (D' := [(8, i64 w_2.err), (7, ptr b5_1 1)]) (by kernel_rfl) (Pend.cons rfl (q_fe gone3 rfl rfl) (Pend.cons rfl (q_field gfa43_1 rfl) (Pend.nil))) ?_
 refine VD.q rfl (q_build (vs := [(0, s13_5.val), (1, i64 w_2.err)]) (cs := #[s13_5.val, i64 w_2.err]) rfl (by kernel_rfl)) (by decide) ?_
 refine VD.one rfl ?_
 refine VL.store (vc := [s13_5.val, i64 w_2.err]) (cs' := [s13_5.val, i64 w_2.err]) rfl rfl rfl gsz43 rfl rfl (Nat.le_of_ble_eq_true rfl) rfl ?_
 refine VL.back (D' := []) (by kernel_rfl) (Pend.nil) ?_
 refine VD.to (fun _ _ h => h) ?_
 refine VC.keep (ρ' := [(6, ptr b6_2 0)]) [6] rfl ?_
 refine VC.shut s13_5 196 (fun _ _ _ _ => trivial) ?_
 cases hS
 exact VC.ret (finG (vs := [.agg #[s13_5.val, i64 w_2.err]]) (.inr rfl) rfl (RVs.cell gagg43 rfl rfl Rd.blk (RVs.nil)) ⟨s13_5, w_2.err⟩ rfl rfl (by (try dsimp only); exact InM.out) (fun _ _ => trivial))
theorem rectoref7_Check_ct (o_0 : Rectoref7Object) {r : Rectoref3WrongP} (hS : Sh.rectoref7_Check o_0.pl = some r) :
 Ct Tryz.prog 57 [.agg #[i64 o_0.kind, str o_0.data, o_0.items.val, i64 o_0.tree, o_0.parents.val, i64 o_0.time, str o_0.text]] (o_0.items.ok.and o_0.parents.ok) (Ow.emp) (X := Rectoref3Wrong) (fun x => .agg (Dat.enc x).toArray) (fun x => r = x.pl) (fun x => x.m) (fun x => Ow.emp) := by
 refine Ct.of Tryz.func57 rfl (by kernel_rfl) Tryz.ntmps57 (by simp) fun c => ?_
 unfold Sh.rectoref7_Check at hS
 refine Zq (Zr ?_)
 refine VL.box (cs := [i64 o_0.kind, str o_0.data, o_0.items.val, i64 o_0.tree, o_0.parents.val, i64 o_0.time, str o_0.text]) rfl rfl (by decide) fun b1_1 => ?_
 refine VL.alloc (cs := [.slice none 0 0, i64 0]) (by kernel_rfl) (by decide) fun b2_2 => ?_
 refine Zl ?_
 refine Zq (Zr ?_)
 refine VL.q (q_field gfa39_0 rfl) (by decide) ?_
 refine VL.q (q_fe gone3 rfl rfl) (by decide) ?_
 obtain ⟨y9_3, ey9_3, hS⟩ := bd_s hS
 refine VL.q (q_call (rectoref7_cut_ct o_0.kind ey9_3) rfl (fun _ _ => rfl)) (by decide) ?_
 refine Za ?_
 refine Zl ?_
 refine Zq (Zq (Zr ?_))
 refine VL.q (q_field gfa39_0 rfl) (by decide) ?_
 refine VL.q (q_fe gone3 rfl rfl) (by decide) ?_
 refine Zl ?_
 refine Zb (Zq (Zr ?_))
 refine VL.q (q_eql rfl rfl) (by decide) ?_
 refine Za ?_
 refine Zl ?_
 refine VC.cond_dec rfl (fun h14 => ?_) (fun h14 => ?_)
 ·
  replace hS := it_t h14 hS
  refine Zq (Zr ?_)
  refine VL.q (q_field gfa39_1 rfl) (by decide) ?_
  refine VL.q (q_fe gone9 rfl rfl) (by decide) ?_
  refine VL.q (q_slen Tryz.underlying9 rfl) (by decide) ?_
  refine VL.q (q_gtr rfl rfl) (by decide) ?_
  refine Zl ?_
  refine VC.keep (ρ' := [(2, ptr b2_2 0), (3, i64 y9_3), (19, .bool (decide (4096 < (o_0.data.length : Int))))]) [2, 3, 19] rfl ?_
  refine VC.cond_dec rfl (fun h19 => ?_) (fun h19 => ?_)
  ·
   replace hS := it_t h19 hS
   refine Zq (Zr ?_)
   refine Zm ?_
   obtain ⟨y21_4, ey21_4, hS⟩ := bd_s hS
   refine VL.callF (rectoref3_At_ct [111, 98, 106, 101, 99, 116] y9_3 4 ey21_4) rfl (by decide) ?_
   rintro q21_4_0 rfl
   try dsimp only
   refine VL.store (vc := [q21_4_0.parts.val, i64 q21_4_0.err]) (cs' := [q21_4_0.parts.val, i64 q21_4_0.err]) rfl rfl rfl gsz43 rfl rfl (Nat.le_of_ble_eq_true rfl) rfl ?_
   refine Zl ?_
   cases hS
   exact VC.ret (finG (vs := [.agg #[q21_4_0.parts.val, i64 q21_4_0.err]]) (.inr rfl) rfl (RVs.cell gagg43 rfl rfl Rd.blk (RVs.nil)) ⟨q21_4_0.parts, q21_4_0.err⟩ rfl rfl (by (try dsimp only); exact InM.out) (fun _ _ => trivial))
  replace hS := it_f h19 hS
  refine Zk ?_
  refine Zq (Zr ?_)
  refine VL.q (q_build (vs := []) (cs := #[.slice none 0 0, i64 0]) rfl (by kernel_rfl)) (by decide) ?_
  refine VL.store (vc := [.slice none 0 0, i64 0]) (cs' := [.slice none 0 0, i64 0]) rfl rfl rfl gsz43 rfl rfl (Nat.le_of_ble_eq_true rfl) rfl ?_
  refine Zl ?_
  cases hS
  exact VC.ret (finG (vs := [.agg #[.slice none 0 0, i64 0]]) (.inr rfl) rfl (RVs.cell gagg43 rfl rfl Rd.blk (RVs.nil)) ⟨⟨none, 0, []⟩, 0⟩ rfl rfl (by (try dsimp only); exact InM.out) (fun _ _ => trivial))
 replace hS := it_f h14 hS
 refine Zq (Zr ?_)
 refine VL.q (q_eql rfl rfl) (by decide) ?_
 refine Za ?_
 refine Zl ?_
 refine VC.keep (ρ' := [(1, ptr b1_1 0), (2, ptr b2_2 0), (3, i64 y9_3), (11, i64 o_0.kind), (22, .bool (decide (o_0.kind = 2)))]) [1, 2, 3, 11, 22] rfl ?_
 refine VC.cond_dec rfl (fun h22 => ?_) (fun h22 => ?_)
 ·
  replace hS := it_t h22 hS
  refine Zq (Zq (Zr ?_))
  refine VL.q (q_field gfa39_2 rfl) (by decide) ?_
  refine VL.q (q_fe gone37 rfl rfl) (by decide) ?_
  refine VL.q (q_ln (s := o_0.items) Tryz.underlying37 rfl) (by decide) ?_
  refine VL.q (q_gtr rfl rfl) (by decide) ?_
  refine Zl ?_
  refine VC.cond_dec rfl (fun h27 => ?_) (fun h27 => ?_)
  ·
   replace hS := it_t h27 hS
   refine Zq (Zr ?_)
   refine Zm ?_
   obtain ⟨y29_5, ey29_5, hS⟩ := bd_s hS
   refine VL.callF (rectoref3_At_ct [111, 98, 106, 101, 99, 116] y9_3 4 ey29_5) rfl (by decide) ?_
   rintro q29_5_0 rfl
   try dsimp only
   refine VL.store (vc := [q29_5_0.parts.val, i64 q29_5_0.err]) (cs' := [q29_5_0.parts.val, i64 q29_5_0.err]) rfl rfl rfl gsz43 rfl rfl (Nat.le_of_ble_eq_true rfl) rfl ?_
   refine Zl ?_
   refine VC.keep (ρ' := [(2, ptr b2_2 0)]) [2] rfl ?_
   cases hS
   exact VC.ret (finG (vs := [.agg #[q29_5_0.parts.val, i64 q29_5_0.err]]) (.inr rfl) rfl (RVs.cell gagg43 rfl rfl Rd.blk (RVs.nil)) ⟨q29_5_0.parts, q29_5_0.err⟩ rfl rfl (by (try dsimp only); exact InM.out) (fun _ _ => trivial))
  replace hS := it_f h27 hS
  refine Zk ?_
  refine Zq (Zr ?_)
  refine Za ?_
  refine Zl ?_
  refine Zb ?_
  refine VC.iter (S := Int) (fun (i4_6 : Int) => i4_6) (fun (i4_6 : Int) => [(1, ptr b1_1 0), (2, ptr b2_2 0), (3, i64 y9_3), (4, i64 i4_6)]) (fun (i4_6 : Int) => Mo.tt) (fun (i4_6 : Int) => Ow.star (Blk b2_2 [.slice none 0 0, i64 0] 43) (Ow.star (Blk b1_1 [i64 o_0.kind, str o_0.data, o_0.items.val, i64 o_0.tree, o_0.parents.val, i64 o_0.time, str o_0.text] 39) (Ow.emp))) 0 [1, 2, 3, 4] hS rfl ?_
  clear hS
  rintro i4_6 m1 y1 hS hK1
  show VC _ _ _ _ _ [(1, ptr b1_1 0), (2, ptr b2_2 0), (3, i64 y9_3), (4, i64 i4_6)] (Mo.and Mo.tt _) (Ow.star (Blk b2_2 [.slice none 0 0, i64 0] 43) (Ow.star (Blk b1_1 [i64 o_0.kind, str o_0.data, o_0.items.val, i64 o_0.tree, o_0.parents.val, i64 o_0.time, str o_0.text] 39) (Ow.emp)))
  refine Zq (Zq (Zr ?_))
  refine Zm ?_
  refine VL.q (q_field gfa39_2 rfl) (by decide) ?_
  refine VL.q (q_fe gone37 rfl rfl) (by decide) ?_
  refine VL.q (q_ln (s := o_0.items) Tryz.underlying37 rfl) (by decide) ?_
  refine VL.q (q_lss rfl rfl) (by decide) ?_
  refine Zl ?_
  refine VC.cond_dec rfl (fun h34 => ?_) (fun h34 => ?_)
  ·
   replace hS := it_t h34 hS
   refine Zk ?_
   refine Zq (Zb (Zq (Zr ?_)))
   refine VL.q (q_field gfa39_2 rfl) (by decide) ?_
   refine VL.q (q_fe gone37 rfl rfl) (by decide) ?_
   refine Zm ?_
   obtain ⟨y40_7, ey40_7, hS⟩ := bd_s hS
   refine VL.q (q_call (rectoref7_item_ct o_0.items i4_6 ey40_7) rfl (fun _ _ => rfl)) (by decide) ?_
   refine Za ?_
   refine Zl ?_
   refine VC.keep (ρ' := [(1, ptr b1_1 0), (2, ptr b2_2 0), (3, i64 y9_3), (4, i64 i4_6), (5, i64 y40_7)]) [1, 2, 3, 4, 5] rfl ?_
   refine Zq (Zr ?_)
   refine Zm ?_
   refine VL.q (q_neq rfl rfl) (by decide) ?_
   refine Zl ?_
   refine VC.cond_ndec rfl (fun h42 => ?_) (fun h42 => ?_)
   ·
    replace hS := it_f h42 hS
    refine Zq (Zr ?_)
    refine Zm ?_
    refine Zm ?_
    refine Zm ?_
    obtain ⟨y46_8, ey46_8, hS⟩ := bd_s hS
    refine VL.callF (rectoref3_At_ct [105, 116, 101, 109] i4_6 y40_7 ey46_8) rfl (by decide) ?_
    rintro q46_8_0 rfl
    try dsimp only
    obtain ⟨y47_9, ey47_9, hS⟩ := bd_s hS
    refine VL.callF (rectoref3_In_ct [111, 98, 106, 101, 99, 116] y9_3 q46_8_0 ey47_9) rfl (by decide) ?_
    rintro q47_9_0 rfl
    try dsimp only
    refine VL.store (vc := [q47_9_0.parts.val, i64 q47_9_0.err]) (cs' := [q47_9_0.parts.val, i64 q47_9_0.err]) rfl rfl rfl gsz43 rfl rfl (Nat.le_of_ble_eq_true rfl) rfl ?_
    refine Zl ?_
    refine VC.keep (ρ' := [(2, ptr b2_2 0)]) [2] rfl ?_
    replace hS := up2 hS hK1
    cases hS
    exact VC.ret (finG (vs := [.agg #[q47_9_0.parts.val, i64 q47_9_0.err]]) (.inr rfl) rfl (RVs.cell gagg43 rfl rfl Rd.blk (RVs.nil)) ⟨q47_9_0.parts, q47_9_0.err⟩ rfl rfl (by (try dsimp only); exact InM.out) (fun _ _ => trivial))
   replace hS := it_t h42 hS
   refine Zk ?_
   refine Zr ?_
   refine Zm ?_
   obtain ⟨b36, hS⟩ := gd_s hS
   refine VL.q (q_add rfl rfl b36) (by decide) ?_
   refine Za ?_
   refine VL.rnd (i4_6 + 1) [1, 2, 3, 4] (fun _ _ h => h) (go2 hS hK1) rfl
  replace hS := it_f h34 hS
  replace hS := up2 hS hK1
  refine Zx ?_
  refine Zq (Zr ?_)
  refine VL.q (q_build (vs := []) (cs := #[.slice none 0 0, i64 0]) rfl (by kernel_rfl)) (by decide) ?_
  refine VL.store (vc := [.slice none 0 0, i64 0]) (cs' := [.slice none 0 0, i64 0]) rfl rfl rfl gsz43 rfl rfl (Nat.le_of_ble_eq_true rfl) rfl ?_
  refine Zl ?_
  cases hS
  exact VC.ret (finG (vs := [.agg #[.slice none 0 0, i64 0]]) (.inr rfl) rfl (RVs.cell gagg43 rfl rfl Rd.blk (RVs.nil)) ⟨⟨none, 0, []⟩, 0⟩ rfl rfl (by (try dsimp only); exact InM.out) (fun _ _ => trivial))
 replace hS := it_f h22 hS
 refine Zq (Zr ?_)
 refine VL.q (q_eql rfl rfl) (by decide) ?_
 refine Za ?_
 refine Zl ?_
 refine VC.cond_dec rfl (fun h48 => ?_) (fun h48 => ?_)
 ·
  replace hS := it_t h48 hS
  refine Zq ?_
  refine VC.cutJ (S := Bool) (fun (x63_10 : Bool) => x63_10) (fun (x63_10 : Bool) => [(1, ptr b1_1 0), (2, ptr b2_2 0), (3, i64 y9_3), (63, .bool x63_10)]) (fun (x63_10 : Bool) => Mo.tt) (fun (x63_10 : Bool) => Ow.star (Blk b2_2 [.slice none 0 0, i64 0] 43) (Ow.star (Blk b1_1 [i64 o_0.kind, str o_0.data, o_0.items.val, i64 o_0.tree, o_0.parents.val, i64 o_0.time, str o_0.text] 39) (Ow.emp))) hS ?_ ?_
  ·
   clear hS
   intro k11 hS
   refine Zr ?_
   refine VL.q (q_field gfa39_3 rfl) (by decide) ?_
   refine VL.q (q_fe gone3 rfl rfl) (by decide) ?_
   refine VL.q (q_lss rfl rfl) (by decide) ?_
   refine Zm ?_
   refine VL.split_dec 53 rfl (fun h53 => ?_) (fun h53 => ?_)
   ·
    replace hS := it_t h53 hS
    refine VL.runs 10 [(63, some true)] (by kernel_rfl) ?_
    refine VL.mt true [1, 2, 3, 63] (fun _ _ h => h) hS rfl
   replace hS := it_f h53 hS
   refine VL.gy rfl rfl (q_field gfa39_4 rfl) (by decide) ?_
   refine VL.gy rfl rfl (q_fe gone32 rfl rfl) (by decide) ?_
   refine VL.gy rfl rfl (q_ln (s := o_0.parents) Tryz.underlying32 rfl) (by decide) ?_
   refine VL.gy rfl rfl (q_gtr rfl rfl) (by decide) ?_
   refine Zf ?_
   refine Zm ?_
   refine VL.split_dec 59 rfl (fun h59 => ?_) (fun h59 => ?_)
   ·
    replace hS := it_t h59 hS
    refine VL.runs 4 [(63, some true)] (by kernel_rfl) ?_
    refine VL.mt true [1, 2, 3, 63] (fun _ _ h => h) hS rfl
   replace hS := it_f h59 hS
   refine VL.gy rfl rfl (q_field gfa39_5 rfl) (by decide) ?_
   refine VL.gy rfl rfl (q_fe gone3 rfl rfl) (by decide) ?_
   refine VL.gy rfl rfl (q_lss rfl rfl) (by decide) ?_
   refine Zf ?_
   refine VL.mt (decide (o_0.time < 0)) [1, 2, 3, 63] (fun _ _ h => h) hS rfl
  clear hS
  rintro x63_10 hS
  show VC _ _ _ _ _ [(1, ptr b1_1 0), (2, ptr b2_2 0), (3, i64 y9_3), (63, .bool x63_10)] (Mo.and Mo.tt _) (Ow.star (Blk b2_2 [.slice none 0 0, i64 0] 43) (Ow.star (Blk b1_1 [i64 o_0.kind, str o_0.data, o_0.items.val, i64 o_0.tree, o_0.parents.val, i64 o_0.time, str o_0.text] 39) (Ow.emp)))
  refine VC.cond rfl (fun h63 => ?_) (fun h63 => ?_)
  ·
   replace hS := it_t h63 hS
   refine Zq (Zr ?_)
   refine Zm ?_
   obtain ⟨y65_12, ey65_12, hS⟩ := bd_s hS
   refine VL.callF (rectoref3_At_ct [111, 98, 106, 101, 99, 116] y9_3 1 ey65_12) rfl (by decide) ?_
   rintro q65_12_0 rfl
   try dsimp only
   refine VL.store (vc := [q65_12_0.parts.val, i64 q65_12_0.err]) (cs' := [q65_12_0.parts.val, i64 q65_12_0.err]) rfl rfl rfl gsz43 rfl rfl (Nat.le_of_ble_eq_true rfl) rfl ?_
   refine Zl ?_
   cases hS
   exact VC.ret (finG (vs := [.agg #[q65_12_0.parts.val, i64 q65_12_0.err]]) (.inr rfl) rfl (RVs.cell gagg43 rfl rfl Rd.blk (RVs.nil)) ⟨q65_12_0.parts, q65_12_0.err⟩ rfl rfl (by (try dsimp only); exact InM.out) (fun _ _ => trivial))
  replace hS := it_b h63 hS
  refine Zk ?_
  refine Zq (Zq (Zr ?_))
  refine Za ?_
  refine Zl ?_
  refine Zb ?_
  refine VC.iter (S := Int) (fun (i6_13 : Int) => i6_13) (fun (i6_13 : Int) => [(1, ptr b1_1 0), (2, ptr b2_2 0), (3, i64 y9_3), (6, i64 i6_13)]) (fun (i6_13 : Int) => Mo.tt) (fun (i6_13 : Int) => Ow.star (Blk b2_2 [.slice none 0 0, i64 0] 43) (Ow.star (Blk b1_1 [i64 o_0.kind, str o_0.data, o_0.items.val, i64 o_0.tree, o_0.parents.val, i64 o_0.time, str o_0.text] 39) (Ow.emp))) 0 [1, 2, 3, 6] hS rfl ?_
  clear hS
  rintro i6_13 m1 y1 hS hK1
  show VC _ _ _ _ _ [(1, ptr b1_1 0), (2, ptr b2_2 0), (3, i64 y9_3), (6, i64 i6_13)] (Mo.and Mo.tt _) (Ow.star (Blk b2_2 [.slice none 0 0, i64 0] 43) (Ow.star (Blk b1_1 [i64 o_0.kind, str o_0.data, o_0.items.val, i64 o_0.tree, o_0.parents.val, i64 o_0.time, str o_0.text] 39) (Ow.emp)))
  refine Zq (Zq (Zr ?_))
  refine Zm ?_
  refine VL.q (q_field gfa39_4 rfl) (by decide) ?_
  refine VL.q (q_fe gone32 rfl rfl) (by decide) ?_
  refine VL.q (q_ln (s := o_0.parents) Tryz.underlying32 rfl) (by decide) ?_
  refine VL.q (q_lss rfl rfl) (by decide) ?_
  refine Zl ?_
  refine VC.cond_dec rfl (fun h70 => ?_) (fun h70 => ?_)
  ·
   replace hS := it_t h70 hS
   refine Zk ?_
   refine Zq (Zb (Zq (Zr ?_)))
   refine VL.q (q_field gfa39_4 rfl) (by decide) ?_
   refine VL.q (q_fe gone32 rfl rfl) (by decide) ?_
   refine Zm ?_
   obtain ⟨z76_14, nz76_14, hz76_14, hS⟩ := at_s hS
   refine VL.q (q_ixm (s := o_0.parents) Tryz.underlying32 gsz3 rfl rfl nz76_14 (lt_of_get nz76_14 hz76_14)) (by decide) ?_
   refine VL.q (q_el (s := o_0.parents) gone3 rfl hz76_14 rfl) (by decide) ?_
   refine VL.q (q_lss rfl rfl) (by decide) ?_
   refine Zl ?_
   refine VC.keep (ρ' := [(1, ptr b1_1 0), (2, ptr b2_2 0), (3, i64 y9_3), (6, i64 i6_13), (78, .bool (decide (z76_14 < 1)))]) [1, 2, 3, 6, 78] rfl ?_
   refine VC.cond_dec rfl (fun h78 => ?_) (fun h78 => ?_)
   ·
    replace hS := it_t h78 hS
    refine Zq (Zr ?_)
    refine Zm ?_
    obtain ⟨y80_15, ey80_15, hS⟩ := bd_s hS
    refine VL.callF (rectoref3_At_ct [111, 98, 106, 101, 99, 116] y9_3 1 ey80_15) rfl (by decide) ?_
    rintro q80_15_0 rfl
    try dsimp only
    refine VL.store (vc := [q80_15_0.parts.val, i64 q80_15_0.err]) (cs' := [q80_15_0.parts.val, i64 q80_15_0.err]) rfl rfl rfl gsz43 rfl rfl (Nat.le_of_ble_eq_true rfl) rfl ?_
    refine Zl ?_
    replace hS := up2 hS hK1
    cases hS
    exact VC.ret (finG (vs := [.agg #[q80_15_0.parts.val, i64 q80_15_0.err]]) (.inr rfl) rfl (RVs.cell gagg43 rfl rfl Rd.blk (RVs.nil)) ⟨q80_15_0.parts, q80_15_0.err⟩ rfl rfl (by (try dsimp only); exact InM.out) (fun _ _ => trivial))
   replace hS := it_f h78 hS
   refine Zk ?_
   refine Zr ?_
   refine Zm ?_
   obtain ⟨b72, hS⟩ := gd_s hS
   refine VL.q (q_add rfl rfl b72) (by decide) ?_
   refine Za ?_
   refine VL.rnd (i6_13 + 1) [1, 2, 3, 6] (fun _ _ h => h) (go2 hS hK1) rfl
  replace hS := it_f h70 hS
  replace hS := up2 hS hK1
  refine Zx ?_
  refine Zq ?_
  refine VC.cutJ (S := Bool) (fun (x95_16 : Bool) => x95_16) (fun (x95_16 : Bool) => [(1, ptr b1_1 0), (2, ptr b2_2 0), (3, i64 y9_3), (95, .bool x95_16)]) (fun (x95_16 : Bool) => Mo.tt) (fun (x95_16 : Bool) => Ow.star (Blk b2_2 [.slice none 0 0, i64 0] 43) (Ow.star (Blk b1_1 [i64 o_0.kind, str o_0.data, o_0.items.val, i64 o_0.tree, o_0.parents.val, i64 o_0.time, str o_0.text] 39) (Ow.emp))) hS ?_ ?_
  ·
   clear hS
   intro k17 hS
   refine VC.draw ((List.range 15).map fun k => (k, true)) mixed (by kernel_rfl) (by kernel_rfl) (by kernel_rfl) ?_
   refine VD.q rfl (q_field gfa39_4 rfl) (by decide) ?_
   refine VD.q rfl (q_fe gone32 rfl rfl) (by decide) ?_
   refine VD.q rfl (q_ln (s := o_0.parents) Tryz.underlying32 rfl) (by decide) ?_
   refine VD.q rfl (q_eql rfl rfl) (by decide) ?_
   refine VD.q rfl (q_move rfl) (by decide) ?_
   refine VD.split_dec 85 rfl (fun h85 => ?_) (fun h85 => ?_)
   ·
    replace hS := it_t h85 hS
    refine VD.gy rfl rfl rfl (q_field gfa39_4 rfl) (by decide) ?_
    refine VD.gy rfl rfl rfl (q_fe gone32 rfl rfl) (by decide) ?_
    obtain ⟨z88_18, nz88_18, hz88_18, hS⟩ := at_s hS
    refine VD.gy rfl rfl rfl (q_ixm (s := o_0.parents) Tryz.underlying32 gsz3 rfl rfl nz88_18 (lt_of_get nz88_18 hz88_18)) (by decide) ?_
    refine VD.gy rfl rfl rfl (q_el (s := o_0.parents) gone3 rfl hz88_18 rfl) (by decide) ?_
    refine VD.gy rfl rfl rfl (q_field gfa39_4 rfl) (by decide) ?_
    refine VD.gy rfl rfl rfl (q_fe gone32 rfl rfl) (by decide) ?_
    obtain ⟨z92_19, nz92_19, hz92_19, hS⟩ := at_s hS
    refine VD.gy rfl rfl rfl (q_ixm (s := o_0.parents) Tryz.underlying32 gsz3 rfl rfl nz92_19 (lt_of_get nz92_19 hz92_19)) (by decide) ?_
    refine VD.gy rfl rfl rfl (q_el (s := o_0.parents) gone3 rfl hz92_19 rfl) (by decide) ?_
    refine VD.gy rfl rfl rfl (q_eql rfl rfl) (by decide) ?_
    refine VD.q rfl (q_pick_t rfl rfl) (by decide) ?_
    refine VD.mt (decide (z88_18 = z92_19)) [1, 2, 3, 95] (fun _ _ h => h) hS rfl
   replace hS := it_f h85 hS
   refine Zd ?_
   refine Zd ?_
   refine Zd ?_
   refine Zd ?_
   refine Zd ?_
   refine Zd ?_
   refine Zd ?_
   refine Zd ?_
   refine Zd ?_
   refine VD.q rfl (q_pick_f rfl rfl) (by decide) ?_
   refine VD.mt false [1, 2, 3, 95] (fun _ _ h => h) hS rfl
  clear hS
  rintro x95_16 hS
  show VC _ _ _ _ _ [(1, ptr b1_1 0), (2, ptr b2_2 0), (3, i64 y9_3), (95, .bool x95_16)] (Mo.and Mo.tt _) (Ow.star (Blk b2_2 [.slice none 0 0, i64 0] 43) (Ow.star (Blk b1_1 [i64 o_0.kind, str o_0.data, o_0.items.val, i64 o_0.tree, o_0.parents.val, i64 o_0.time, str o_0.text] 39) (Ow.emp)))
  refine VC.cond rfl (fun h95 => ?_) (fun h95 => ?_)
  ·
   replace hS := it_t h95 hS
   refine Zq (Zr ?_)
   refine Zm ?_
   obtain ⟨y97_20, ey97_20, hS⟩ := bd_s hS
   refine VL.callF (rectoref3_At_ct [111, 98, 106, 101, 99, 116] y9_3 6 ey97_20) rfl (by decide) ?_
   rintro q97_20_0 rfl
   try dsimp only
   refine VL.store (vc := [q97_20_0.parts.val, i64 q97_20_0.err]) (cs' := [q97_20_0.parts.val, i64 q97_20_0.err]) rfl rfl rfl gsz43 rfl rfl (Nat.le_of_ble_eq_true rfl) rfl ?_
   refine Zl ?_
   cases hS
   exact VC.ret (finG (vs := [.agg #[q97_20_0.parts.val, i64 q97_20_0.err]]) (.inr rfl) rfl (RVs.cell gagg43 rfl rfl Rd.blk (RVs.nil)) ⟨q97_20_0.parts, q97_20_0.err⟩ rfl rfl (by (try dsimp only); exact InM.out) (fun _ _ => trivial))
  replace hS := it_b h95 hS
  refine Zk ?_
  refine Zq (Zr ?_)
  refine VL.q (q_field gfa39_6 rfl) (by decide) ?_
  refine VL.q (q_fe gone9 rfl rfl) (by decide) ?_
  refine VL.q (q_slen Tryz.underlying9 rfl) (by decide) ?_
  refine VL.q (q_gtr rfl rfl) (by decide) ?_
  refine Zl ?_
  refine VC.cond_dec rfl (fun h101 => ?_) (fun h101 => ?_)
  ·
   replace hS := it_t h101 hS
   refine Zq (Zr ?_)
   refine Zm ?_
   obtain ⟨y103_21, ey103_21, hS⟩ := bd_s hS
   refine VL.callF (rectoref3_At_ct [111, 98, 106, 101, 99, 116] y9_3 4 ey103_21) rfl (by decide) ?_
   rintro q103_21_0 rfl
   try dsimp only
   refine VL.store (vc := [q103_21_0.parts.val, i64 q103_21_0.err]) (cs' := [q103_21_0.parts.val, i64 q103_21_0.err]) rfl rfl rfl gsz43 rfl rfl (Nat.le_of_ble_eq_true rfl) rfl ?_
   refine Zl ?_
   cases hS
   exact VC.ret (finG (vs := [.agg #[q103_21_0.parts.val, i64 q103_21_0.err]]) (.inr rfl) rfl (RVs.cell gagg43 rfl rfl Rd.blk (RVs.nil)) ⟨q103_21_0.parts, q103_21_0.err⟩ rfl rfl (by (try dsimp only); exact InM.out) (fun _ _ => trivial))
  replace hS := it_f h101 hS
  refine Zk ?_
  refine Zq (Zr ?_)
  refine VL.q (q_build (vs := []) (cs := #[.slice none 0 0, i64 0]) rfl (by kernel_rfl)) (by decide) ?_
  refine VL.store (vc := [.slice none 0 0, i64 0]) (cs' := [.slice none 0 0, i64 0]) rfl rfl rfl gsz43 rfl rfl (Nat.le_of_ble_eq_true rfl) rfl ?_
  refine Zl ?_
  cases hS
  exact VC.ret (finG (vs := [.agg #[.slice none 0 0, i64 0]]) (.inr rfl) rfl (RVs.cell gagg43 rfl rfl Rd.blk (RVs.nil)) ⟨⟨none, 0, []⟩, 0⟩ rfl rfl (by (try dsimp only); exact InM.out) (fun _ _ => trivial))
 replace hS := it_f h48 hS
 refine Zq (Zr ?_)
 refine Zm ?_
 obtain ⟨y13_22, ey13_22, hS⟩ := bd_s hS
 refine VL.callF (rectoref3_At_ct [111, 98, 106, 101, 99, 116] y9_3 1 ey13_22) rfl (by decide) ?_
 rintro q13_22_0 rfl
 try dsimp only
 refine VL.store (vc := [q13_22_0.parts.val, i64 q13_22_0.err]) (cs' := [q13_22_0.parts.val, i64 q13_22_0.err]) rfl rfl rfl gsz43 rfl rfl (Nat.le_of_ble_eq_true rfl) rfl ?_
 refine Zl ?_
 cases hS
 exact VC.ret (finG (vs := [.agg #[q13_22_0.parts.val, i64 q13_22_0.err]]) (.inr rfl) rfl (RVs.cell gagg43 rfl rfl Rd.blk (RVs.nil)) ⟨q13_22_0.parts, q13_22_0.err⟩ rfl rfl (by (try dsimp only); exact InM.out) (fun _ _ => trivial))
theorem rectolaw8_kind_ct (l_0 : Sv Rectoref7Object) (id_1 : Int) {r : Int} (hS : Sh.rectolaw8_kind (l_0.l.map Rectoref7Object.pl) id_1 = some r) :
 Ct Tryz.prog 58 [l_0.val, i64 id_1] l_0.ok (Ow.emp) (X := Unit) (fun _ => i64 r) (fun _ => True) (fun _ => Mo.tt) (fun _ => Ow.emp) := by
 refine Ct.of Tryz.func58 rfl (by kernel_rfl) Tryz.ntmps58 (by simp) fun c => ?_
 unfold Sh.rectolaw8_kind at hS
 refine Zq (Zr ?_)
 refine Za ?_
 refine Zl ?_
 refine Zq ?_
 refine VC.cutJ (S := Bool) (fun (x12_1 : Bool) => x12_1) (fun (x12_1 : Bool) => [(0, l_0.val), (1, i64 id_1), (12, .bool x12_1)]) (fun (x12_1 : Bool) => Mo.tt) (fun (x12_1 : Bool) => Ow.emp) hS ?_ ?_
 ·
  clear hS
  intro k2 hS
  refine Zr ?_
  refine Zm ?_
  refine VL.q (q_lss rfl rfl) (by decide) ?_
  refine Zm ?_
  refine VL.split_dec 7 rfl (fun h7 => ?_) (fun h7 => ?_)
  ·
   replace hS := it_t h7 hS
   refine VL.runs 5 [(12, some true)] (by kernel_rfl) ?_
   refine VL.mt true [0, 1, 12] (fun _ _ h => h) hS rfl
  replace hS := it_f h7 hS
  refine Zg ?_
  refine Zg ?_
  refine VL.gy rfl rfl (q_lnm Rectoref7Object.pl (s := l_0) Tryz.underlying30 rfl) (by decide) ?_
  refine VL.gy rfl rfl (q_gtr rfl rfl) (by decide) ?_
  refine Zf ?_
  refine VL.mt (decide (((l_0.l.map Rectoref7Object.pl).length : Int) < id_1)) [0, 1, 12] (fun _ _ h => h) hS rfl
 clear hS
 rintro x12_1 hS
 show VC _ _ _ _ _ [(0, l_0.val), (1, i64 id_1), (12, .bool x12_1)] (Mo.and Mo.tt _) (Ow.emp)
 refine VC.cond rfl (fun h12 => ?_) (fun h12 => ?_)
 ·
  replace hS := it_t h12 hS
  refine Zq (Zr ?_)
  refine Za ?_
  refine Zl ?_
  cases hS
  exact Ze
 replace hS := it_b h12 hS
 refine Zk ?_
 refine Zq (Zr ?_)
 refine Zm ?_
 refine Zm ?_
 obtain ⟨b15, hS⟩ := gd_s hS
 refine VL.q (q_sub rfl rfl b15) (by decide) ?_
 obtain ⟨z16_3, nz16_3, hz16_3, hS⟩ := atm_s hS
 refine VL.deep z16_3.m hz16_3 (fun _ q => q) ?_
 refine VL.q (q_ixm (s := l_0) Tryz.underlying30 gsz39 rfl rfl nz16_3 (lt_of_get nz16_3 hz16_3)) (by decide) ?_
 refine VL.q (q_field gfa39_0 rfl) (by decide) ?_
 refine VL.q (q_elf (s := l_0) gone3 rfl hz16_3 rfl) (by decide) ?_
 refine Za ?_
 refine Zl ?_
 cases hS
 exact Ze
theorem rectolaw8_wrong_ct (l_0 : Sv Rectoref7Object) (o_1 : Rectoref7Object) {r : Rectoref3WrongP} (hS : Sh.rectolaw8_wrong (l_0.l.map Rectoref7Object.pl) o_1.pl = some r) :
 Ct Tryz.prog 16 [l_0.val, .agg #[i64 o_1.kind, str o_1.data, o_1.items.val, i64 o_1.tree, o_1.parents.val, i64 o_1.time, str o_1.text]] (l_0.ok.and (o_1.items.ok.and o_1.parents.ok)) (Ow.emp) (X := Rectoref3Wrong) (fun x => .agg (Dat.enc x).toArray) (fun x => r = x.pl) (fun x => x.m) (fun x => Ow.emp) := by
 refine Ct.of Tryz.func16 rfl (by kernel_rfl) Tryz.ntmps16 (by simp) fun c => ?_
 unfold Sh.rectolaw8_wrong at hS
 refine Zq (Zr ?_)
 refine VL.box (cs := [i64 o_1.kind, str o_1.data, o_1.items.val, i64 o_1.tree, o_1.parents.val, i64 o_1.time, str o_1.text]) rfl rfl (by decide) fun b3_1 => ?_
 refine VL.alloc (cs := [.slice none 0 0, i64 0]) (by kernel_rfl) (by decide) fun b4_2 => ?_
 refine Zl ?_
 refine Zq (Zr ?_)
 refine VL.q (q_fes gagg39 rfl rfl) (by decide) ?_
 obtain ⟨y9_3, ey9_3, hS⟩ := bd_s hS
 refine VL.callF (rectoref7_Check_ct (⟨o_1.kind, o_1.data, o_1.items, o_1.tree, o_1.parents, o_1.time, o_1.text⟩ : Rectoref7Object) ey9_3) rfl (by decide) ?_
 rintro q9_3_0 rfl
 try dsimp only
 refine VL.alloc (cs := [.slice none 0 0, i64 0]) (by kernel_rfl) (by decide) fun b5_4 => ?_
 refine VL.store (vc := [q9_3_0.parts.val, i64 q9_3_0.err]) (cs' := [q9_3_0.parts.val, i64 q9_3_0.err]) rfl rfl rfl gsz43 rfl rfl (Nat.le_of_ble_eq_true rfl) rfl ?_
 refine Zl ?_
 refine Zq (Zq (Zr ?_))
 refine VL.q (q_field gfa43_1 rfl) (by decide) ?_
 refine VL.q (q_fe gone3 rfl rfl) (by decide) ?_
 refine VL.q (q_neq rfl rfl) (by decide) ?_
 refine Zl ?_
 refine VC.cond_ndec rfl (fun h12 => ?_) (fun h12 => ?_)
 ·
  replace hS := it_f h12 hS
  refine Zq (Zr ?_)
  refine VL.q (q_fes gagg43 rfl rfl) (by decide) ?_
  refine VL.store (vc := [q9_3_0.parts.val, i64 q9_3_0.err]) (cs' := [q9_3_0.parts.val, i64 q9_3_0.err]) rfl rfl rfl gsz43 rfl rfl (Nat.le_of_ble_eq_true rfl) rfl ?_
  refine Zl ?_
  refine VC.keep (ρ' := [(4, ptr b4_2 0)]) [4] rfl ?_
  cases hS
  exact VC.ret (finG (vs := [.agg #[q9_3_0.parts.val, i64 q9_3_0.err]]) (.inr rfl) rfl (RVs.cell gagg43 rfl rfl Rd.blk (RVs.nil)) ⟨q9_3_0.parts, q9_3_0.err⟩ rfl rfl (by (try dsimp only); exact InM.out) (fun _ _ => trivial))
 replace hS := it_t h12 hS
 refine Zk ?_
 refine Zq (Zq (Zr ?_))
 refine VL.q (q_field gfa39_0 rfl) (by decide) ?_
 refine VL.q (q_fe gone3 rfl rfl) (by decide) ?_
 refine Zl ?_
 refine VC.keep (ρ' := [(0, l_0.val), (3, ptr b3_1 0), (4, ptr b4_2 0), (15, i64 o_1.kind)]) [0, 3, 4, 15] rfl ?_
 refine Zb (Zq (Zr ?_))
 refine VL.q (q_eql rfl rfl) (by decide) ?_
 refine Za ?_
 refine Zl ?_
 refine VC.cond_dec rfl (fun h16 => ?_) (fun h16 => ?_)
 ·
  replace hS := it_t h16 hS
  refine Zq (Zr ?_)
  refine Za ?_
  refine Zl ?_
  refine Zb ?_
  refine VC.iter (S := Int) (fun (i6_5 : Int) => i6_5) (fun (i6_5 : Int) => [(0, l_0.val), (3, ptr b3_1 0), (4, ptr b4_2 0), (6, i64 i6_5)]) (fun (i6_5 : Int) => Mo.tt) (fun (i6_5 : Int) => Ow.star (Blk b5_4 [q9_3_0.parts.val, i64 q9_3_0.err] 43) (Ow.star (Blk b4_2 [.slice none 0 0, i64 0] 43) (Ow.star (Blk b3_1 [i64 o_1.kind, str o_1.data, o_1.items.val, i64 o_1.tree, o_1.parents.val, i64 o_1.time, str o_1.text] 39) (Ow.emp)))) 0 [0, 3, 4, 6] hS rfl ?_
  clear hS
  rintro i6_5 m1 y1 hS hK1
  show VC _ _ _ _ _ [(0, l_0.val), (3, ptr b3_1 0), (4, ptr b4_2 0), (6, i64 i6_5)] (Mo.and Mo.tt _) (Ow.star (Blk b5_4 [q9_3_0.parts.val, i64 q9_3_0.err] 43) (Ow.star (Blk b4_2 [.slice none 0 0, i64 0] 43) (Ow.star (Blk b3_1 [i64 o_1.kind, str o_1.data, o_1.items.val, i64 o_1.tree, o_1.parents.val, i64 o_1.time, str o_1.text] 39) (Ow.emp))))
  refine Zq (Zq (Zr ?_))
  refine Zm ?_
  refine VL.q (q_field gfa39_2 rfl) (by decide) ?_
  refine VL.q (q_fe gone37 rfl rfl) (by decide) ?_
  refine VL.q (q_ln (s := o_1.items) Tryz.underlying37 rfl) (by decide) ?_
  refine VL.q (q_lss rfl rfl) (by decide) ?_
  refine Zl ?_
  refine VC.cond_dec rfl (fun h22 => ?_) (fun h22 => ?_)
  ·
   replace hS := it_t h22 hS
   refine Zk ?_
   refine Zq (Zb (Zq (Zr ?_)))
   refine Zm ?_
   refine VL.q (q_field gfa39_2 rfl) (by decide) ?_
   refine VL.q (q_fe gone37 rfl rfl) (by decide) ?_
   refine Zm ?_
   obtain ⟨z29_6, nz29_6, hz29_6, hS⟩ := at_s hS
   refine VL.q (q_ixm (s := o_1.items) Tryz.underlying37 gsz142 rfl rfl nz29_6 (lt_of_get nz29_6 hz29_6)) (by decide) ?_
   refine VL.q (q_field gfa142_2 rfl) (by decide) ?_
   refine VL.q (q_elf (s := o_1.items) gone3 rfl hz29_6 rfl) (by decide) ?_
   obtain ⟨y32_7, ey32_7, hS⟩ := bd_s hS
   refine VL.q (q_call (rectolaw8_kind_ct l_0 z29_6.blob ey32_7) rfl (fun _ _ => rfl)) (by decide) ?_
   refine VL.q (q_neq rfl rfl) (by decide) ?_
   refine Zl ?_
   refine VC.keep (ρ' := [(0, l_0.val), (3, ptr b3_1 0), (4, ptr b4_2 0), (6, i64 i6_5), (33, .bool (!decide (y32_7 = 1)))]) [0, 3, 4, 6, 33] rfl ?_
   refine VC.cond_ndec rfl (fun h33 => ?_) (fun h33 => ?_)
   ·
    replace hS := it_f h33 hS
    refine Zq (Zr ?_)
    refine VL.q (q_field gfa39_2 rfl) (by decide) ?_
    refine VL.q (q_fe gone37 rfl rfl) (by decide) ?_
    refine Zm ?_
    obtain ⟨z37_8, nz37_8, hz37_8, hS⟩ := at_s hS
    refine VL.q (q_ixm (s := o_1.items) Tryz.underlying37 gsz142 rfl rfl nz37_8 (lt_of_get nz37_8 hz37_8)) (by decide) ?_
    refine VL.q (q_field gfa142_2 rfl) (by decide) ?_
    refine VL.q (q_elf (s := o_1.items) gone3 rfl hz37_8 rfl) (by decide) ?_
    obtain ⟨y40_9, ey40_9, hS⟩ := bd_s hS
    refine VL.callF (rectoref3_At_ct [114, 101, 102] z37_8.blob 5 ey40_9) rfl (by decide) ?_
    rintro q40_9_0 rfl
    try dsimp only
    refine VL.store (vc := [q40_9_0.parts.val, i64 q40_9_0.err]) (cs' := [q40_9_0.parts.val, i64 q40_9_0.err]) rfl rfl rfl gsz43 rfl rfl (Nat.le_of_ble_eq_true rfl) rfl ?_
    refine Zl ?_
    refine VC.keep (ρ' := [(4, ptr b4_2 0)]) [4] rfl ?_
    replace hS := up2 hS hK1
    cases hS
    exact VC.ret (finG (vs := [.agg #[q40_9_0.parts.val, i64 q40_9_0.err]]) (.inr rfl) rfl (RVs.cell gagg43 rfl rfl Rd.blk (RVs.nil)) ⟨q40_9_0.parts, q40_9_0.err⟩ rfl rfl (by (try dsimp only); exact InM.out) (fun _ _ => trivial))
   replace hS := it_t h33 hS
   refine Zk ?_
   refine Zr ?_
   refine Zm ?_
   obtain ⟨b24, hS⟩ := gd_s hS
   refine VL.q (q_add rfl rfl b24) (by decide) ?_
   refine Za ?_
   refine VL.rnd (i6_5 + 1) [0, 3, 4, 6] (fun _ _ h => h) (go2 hS hK1) rfl
  replace hS := it_f h22 hS
  replace hS := up2 hS hK1
  refine Zx ?_
  refine Zq (Zr ?_)
  refine VL.q (q_build (vs := []) (cs := #[.slice none 0 0, i64 0]) rfl (by kernel_rfl)) (by decide) ?_
  refine VL.store (vc := [.slice none 0 0, i64 0]) (cs' := [.slice none 0 0, i64 0]) rfl rfl rfl gsz43 rfl rfl (Nat.le_of_ble_eq_true rfl) rfl ?_
  refine Zl ?_
  cases hS
  exact VC.ret (finG (vs := [.agg #[.slice none 0 0, i64 0]]) (.inr rfl) rfl (RVs.cell gagg43 rfl rfl Rd.blk (RVs.nil)) ⟨⟨none, 0, []⟩, 0⟩ rfl rfl (by (try dsimp only); exact InM.out) (fun _ _ => trivial))
 replace hS := it_f h16 hS
 refine Zq (Zr ?_)
 refine VL.q (q_eql rfl rfl) (by decide) ?_
 refine Za ?_
 refine Zl ?_
 refine VC.cond_dec rfl (fun h41 => ?_) (fun h41 => ?_)
 ·
  replace hS := it_t h41 hS
  refine Zq (Zq (Zr ?_))
  refine Zm ?_
  refine VL.q (q_field gfa39_3 rfl) (by decide) ?_
  refine VL.q (q_fe gone3 rfl rfl) (by decide) ?_
  obtain ⟨y46_10, ey46_10, hS⟩ := bd_s hS
  refine VL.q (q_call (rectolaw8_kind_ct l_0 o_1.tree ey46_10) rfl (fun _ _ => rfl)) (by decide) ?_
  refine VL.q (q_neq rfl rfl) (by decide) ?_
  refine Zl ?_
  refine VC.keep (ρ' := [(0, l_0.val), (3, ptr b3_1 0), (4, ptr b4_2 0), (47, .bool (!decide (y46_10 = 2)))]) [0, 3, 4, 47] rfl ?_
  refine VC.cond_ndec rfl (fun h47 => ?_) (fun h47 => ?_)
  ·
   replace hS := it_f h47 hS
   refine Zq (Zr ?_)
   refine VL.q (q_field gfa39_3 rfl) (by decide) ?_
   refine VL.q (q_fe gone3 rfl rfl) (by decide) ?_
   obtain ⟨y50_11, ey50_11, hS⟩ := bd_s hS
   refine VL.callF (rectoref3_At_ct [114, 101, 102] o_1.tree 5 ey50_11) rfl (by decide) ?_
   rintro q50_11_0 rfl
   try dsimp only
   refine VL.store (vc := [q50_11_0.parts.val, i64 q50_11_0.err]) (cs' := [q50_11_0.parts.val, i64 q50_11_0.err]) rfl rfl rfl gsz43 rfl rfl (Nat.le_of_ble_eq_true rfl) rfl ?_
   refine Zl ?_
   cases hS
   exact VC.ret (finG (vs := [.agg #[q50_11_0.parts.val, i64 q50_11_0.err]]) (.inr rfl) rfl (RVs.cell gagg43 rfl rfl Rd.blk (RVs.nil)) ⟨q50_11_0.parts, q50_11_0.err⟩ rfl rfl (by (try dsimp only); exact InM.out) (fun _ _ => trivial))
  replace hS := it_t h47 hS
  refine Zk ?_
  refine Zq (Zr ?_)
  refine Za ?_
  refine Zl ?_
  refine Zb ?_
  refine VC.iter (S := Int) (fun (i7_12 : Int) => i7_12) (fun (i7_12 : Int) => [(0, l_0.val), (3, ptr b3_1 0), (4, ptr b4_2 0), (7, i64 i7_12)]) (fun (i7_12 : Int) => Mo.tt) (fun (i7_12 : Int) => Ow.star (Blk b5_4 [q9_3_0.parts.val, i64 q9_3_0.err] 43) (Ow.star (Blk b4_2 [.slice none 0 0, i64 0] 43) (Ow.star (Blk b3_1 [i64 o_1.kind, str o_1.data, o_1.items.val, i64 o_1.tree, o_1.parents.val, i64 o_1.time, str o_1.text] 39) (Ow.emp)))) 0 [0, 3, 4, 7] hS rfl ?_
  clear hS
  rintro i7_12 m1 y1 hS hK1
  show VC _ _ _ _ _ [(0, l_0.val), (3, ptr b3_1 0), (4, ptr b4_2 0), (7, i64 i7_12)] (Mo.and Mo.tt _) (Ow.star (Blk b5_4 [q9_3_0.parts.val, i64 q9_3_0.err] 43) (Ow.star (Blk b4_2 [.slice none 0 0, i64 0] 43) (Ow.star (Blk b3_1 [i64 o_1.kind, str o_1.data, o_1.items.val, i64 o_1.tree, o_1.parents.val, i64 o_1.time, str o_1.text] 39) (Ow.emp))))
  refine Zq (Zq (Zr ?_))
  refine Zm ?_
  refine VL.q (q_field gfa39_4 rfl) (by decide) ?_
  refine VL.q (q_fe gone32 rfl rfl) (by decide) ?_
  refine VL.q (q_ln (s := o_1.parents) Tryz.underlying32 rfl) (by decide) ?_
  refine VL.q (q_lss rfl rfl) (by decide) ?_
  refine Zl ?_
  refine VC.cond_dec rfl (fun h55 => ?_) (fun h55 => ?_)
  ·
   replace hS := it_t h55 hS
   refine Zk ?_
   refine Zq (Zb (Zq (Zr ?_)))
   refine Zm ?_
   refine VL.q (q_field gfa39_4 rfl) (by decide) ?_
   refine VL.q (q_fe gone32 rfl rfl) (by decide) ?_
   refine Zm ?_
   obtain ⟨z62_13, nz62_13, hz62_13, hS⟩ := at_s hS
   refine VL.q (q_ixm (s := o_1.parents) Tryz.underlying32 gsz3 rfl rfl nz62_13 (lt_of_get nz62_13 hz62_13)) (by decide) ?_
   refine VL.q (q_el (s := o_1.parents) gone3 rfl hz62_13 rfl) (by decide) ?_
   obtain ⟨y64_14, ey64_14, hS⟩ := bd_s hS
   refine VL.q (q_call (rectolaw8_kind_ct l_0 z62_13 ey64_14) rfl (fun _ _ => rfl)) (by decide) ?_
   refine VL.q (q_neq rfl rfl) (by decide) ?_
   refine Zl ?_
   refine VC.keep (ρ' := [(0, l_0.val), (3, ptr b3_1 0), (4, ptr b4_2 0), (7, i64 i7_12), (65, .bool (!decide (y64_14 = 3)))]) [0, 3, 4, 7, 65] rfl ?_
   refine VC.cond_ndec rfl (fun h65 => ?_) (fun h65 => ?_)
   ·
    replace hS := it_f h65 hS
    refine Zq (Zr ?_)
    refine VL.q (q_field gfa39_4 rfl) (by decide) ?_
    refine VL.q (q_fe gone32 rfl rfl) (by decide) ?_
    refine Zm ?_
    obtain ⟨z69_15, nz69_15, hz69_15, hS⟩ := at_s hS
    refine VL.q (q_ixm (s := o_1.parents) Tryz.underlying32 gsz3 rfl rfl nz69_15 (lt_of_get nz69_15 hz69_15)) (by decide) ?_
    refine VL.q (q_el (s := o_1.parents) gone3 rfl hz69_15 rfl) (by decide) ?_
    obtain ⟨y71_16, ey71_16, hS⟩ := bd_s hS
    refine VL.callF (rectoref3_At_ct [114, 101, 102] z69_15 5 ey71_16) rfl (by decide) ?_
    rintro q71_16_0 rfl
    try dsimp only
    refine VL.store (vc := [q71_16_0.parts.val, i64 q71_16_0.err]) (cs' := [q71_16_0.parts.val, i64 q71_16_0.err]) rfl rfl rfl gsz43 rfl rfl (Nat.le_of_ble_eq_true rfl) rfl ?_
    refine Zl ?_
    refine VC.keep (ρ' := [(4, ptr b4_2 0)]) [4] rfl ?_
    replace hS := up2 hS hK1
    cases hS
    exact VC.ret (finG (vs := [.agg #[q71_16_0.parts.val, i64 q71_16_0.err]]) (.inr rfl) rfl (RVs.cell gagg43 rfl rfl Rd.blk (RVs.nil)) ⟨q71_16_0.parts, q71_16_0.err⟩ rfl rfl (by (try dsimp only); exact InM.out) (fun _ _ => trivial))
   replace hS := it_t h65 hS
   refine Zk ?_
   refine Zr ?_
   refine Zm ?_
   obtain ⟨b57, hS⟩ := gd_s hS
   refine VL.q (q_add rfl rfl b57) (by decide) ?_
   refine Za ?_
   refine VL.rnd (i7_12 + 1) [0, 3, 4, 7] (fun _ _ h => h) (go2 hS hK1) rfl
  replace hS := it_f h55 hS
  replace hS := up2 hS hK1
  refine Zx ?_
  refine Zq (Zr ?_)
  refine VL.q (q_build (vs := []) (cs := #[.slice none 0 0, i64 0]) rfl (by kernel_rfl)) (by decide) ?_
  refine VL.store (vc := [.slice none 0 0, i64 0]) (cs' := [.slice none 0 0, i64 0]) rfl rfl rfl gsz43 rfl rfl (Nat.le_of_ble_eq_true rfl) rfl ?_
  refine Zl ?_
  cases hS
  exact VC.ret (finG (vs := [.agg #[.slice none 0 0, i64 0]]) (.inr rfl) rfl (RVs.cell gagg43 rfl rfl Rd.blk (RVs.nil)) ⟨⟨none, 0, []⟩, 0⟩ rfl rfl (by (try dsimp only); exact InM.out) (fun _ _ => trivial))
 replace hS := it_f h41 hS
 refine Zk ?_
 refine Zq (Zr ?_)
 refine VL.q (q_build (vs := []) (cs := #[.slice none 0 0, i64 0]) rfl (by kernel_rfl)) (by decide) ?_
 refine VL.store (vc := [.slice none 0 0, i64 0]) (cs' := [.slice none 0 0, i64 0]) rfl rfl rfl gsz43 rfl rfl (Nat.le_of_ble_eq_true rfl) rfl ?_
 refine Zl ?_
 cases hS
 exact VC.ret (finG (vs := [.agg #[.slice none 0 0, i64 0]]) (.inr rfl) rfl (RVs.cell gagg43 rfl rfl Rd.blk (RVs.nil)) ⟨⟨none, 0, []⟩, 0⟩ rfl rfl (by (try dsimp only); exact InM.out) (fun _ _ => trivial))
theorem rectoref7_Same_ct (a_0 : Rectoref7Object) (b_1 : Rectoref7Object) {r : Bool} (hS : Sh.rectoref7_Same a_0.pl b_1.pl = some r) :
 Ct Tryz.prog 17 [.agg #[i64 a_0.kind, str a_0.data, a_0.items.val, i64 a_0.tree, a_0.parents.val, i64 a_0.time, str a_0.text], .agg #[i64 b_1.kind, str b_1.data, b_1.items.val, i64 b_1.tree, b_1.parents.val, i64 b_1.time, str b_1.text]] (a_0.items.ok.and (a_0.parents.ok.and (b_1.items.ok.and b_1.parents.ok))) (Ow.emp) (X := Unit) (fun _ => .bool r) (fun _ => True) (fun _ => Mo.tt) (fun _ => Ow.emp) := by
 refine Ct.of Tryz.func17 rfl (by kernel_rfl) Tryz.ntmps17 (by simp) fun c => ?_
 unfold Sh.rectoref7_Same at hS
 refine Zq (Zr ?_)
 refine VL.box (cs := [i64 a_0.kind, str a_0.data, a_0.items.val, i64 a_0.tree, a_0.parents.val, i64 a_0.time, str a_0.text]) rfl rfl (by decide) fun b2_1 => ?_
 refine VL.box (cs := [i64 b_1.kind, str b_1.data, b_1.items.val, i64 b_1.tree, b_1.parents.val, i64 b_1.time, str b_1.text]) rfl rfl (by decide) fun b3_2 => ?_
 refine Za ?_
 refine Zl ?_
 refine Zq (Zq (Zr ?_))
 refine VL.q (q_field gfa39_0 rfl) (by decide) ?_
 refine VL.q (q_fe gone3 rfl rfl) (by decide) ?_
 refine VL.q (q_field gfa39_0 rfl) (by decide) ?_
 refine VL.q (q_fe gone3 rfl rfl) (by decide) ?_
 refine VL.q (q_neq rfl rfl) (by decide) ?_
 refine Zl ?_
 refine VC.cond_ndec rfl (fun h11 => ?_) (fun h11 => ?_)
 ·
  replace hS := it_f h11 hS
  refine Zq (Zr ?_)
  refine Za ?_
  refine Zl ?_
  cases hS
  exact Ze
 replace hS := it_t h11 hS
 refine Zk ?_
 refine Zq (Zq (Zr ?_))
 refine VL.q (q_field gfa39_0 rfl) (by decide) ?_
 refine VL.q (q_fe gone3 rfl rfl) (by decide) ?_
 refine Zl ?_
 refine VC.keep (ρ' := [(2, ptr b2_1 0), (3, ptr b3_2 0), (13, i64 a_0.kind)]) [2, 3, 13] rfl ?_
 refine Zb (Zq (Zr ?_))
 refine VL.q (q_eql rfl rfl) (by decide) ?_
 refine Za ?_
 refine Zl ?_
 refine VC.cond_dec rfl (fun h14 => ?_) (fun h14 => ?_)
 ·
  replace hS := it_t h14 hS
  refine Zq (Zr ?_)
  refine VL.q (q_field gfa39_1 rfl) (by decide) ?_
  refine VL.q (q_fe gone9 rfl rfl) (by decide) ?_
  refine VL.q (q_field gfa39_1 rfl) (by decide) ?_
  refine VL.q (q_fe gone9 rfl rfl) (by decide) ?_
  refine Zs ?_
  refine Za ?_
  refine Zl ?_
  refine VC.keep (ρ' := [(4, .bool (decide (a_0.data = b_1.data)))]) [4] rfl ?_
  cases hS
  exact Ze
 replace hS := it_f h14 hS
 refine Zq (Zr ?_)
 refine VL.q (q_eql rfl rfl) (by decide) ?_
 refine Za ?_
 refine Zl ?_
 refine VC.cond_dec rfl (fun h21 => ?_) (fun h21 => ?_)
 ·
  replace hS := it_t h21 hS
  refine Zq (Zq (Zr ?_))
  refine VL.q (q_field gfa39_2 rfl) (by decide) ?_
  refine VL.q (q_fe gone37 rfl rfl) (by decide) ?_
  refine VL.q (q_ln (s := a_0.items) Tryz.underlying37 rfl) (by decide) ?_
  refine VL.q (q_field gfa39_2 rfl) (by decide) ?_
  refine VL.q (q_fe gone37 rfl rfl) (by decide) ?_
  refine VL.q (q_ln (s := b_1.items) Tryz.underlying37 rfl) (by decide) ?_
  refine VL.q (q_neq rfl rfl) (by decide) ?_
  refine Zl ?_
  refine VC.keep (ρ' := [(2, ptr b2_1 0), (3, ptr b3_2 0), (29, .bool (!decide ((a_0.items.l.length : Int) = (b_1.items.l.length : Int))))]) [2, 3, 29] rfl ?_
  refine VC.cond_ndec rfl (fun h29 => ?_) (fun h29 => ?_)
  ·
   replace hS := it_f h29 hS
   refine Zq (Zr ?_)
   refine Za ?_
   refine Zl ?_
   cases hS
   exact Ze
  replace hS := it_t h29 hS
  refine Zk ?_
  refine Zq (Zq (Zr ?_))
  refine Za ?_
  refine Zl ?_
  refine Zb ?_
  refine VC.iter (S := Int) (fun (i5_3 : Int) => i5_3) (fun (i5_3 : Int) => [(2, ptr b2_1 0), (3, ptr b3_2 0), (5, i64 i5_3)]) (fun (i5_3 : Int) => Mo.tt) (fun (i5_3 : Int) => Ow.star (Blk b3_2 [i64 b_1.kind, str b_1.data, b_1.items.val, i64 b_1.tree, b_1.parents.val, i64 b_1.time, str b_1.text] 39) (Ow.star (Blk b2_1 [i64 a_0.kind, str a_0.data, a_0.items.val, i64 a_0.tree, a_0.parents.val, i64 a_0.time, str a_0.text] 39) (Ow.emp))) 0 [2, 3, 5] hS rfl ?_
  clear hS
  rintro i5_3 m1 y1 hS hK1
  show VC _ _ _ _ _ [(2, ptr b2_1 0), (3, ptr b3_2 0), (5, i64 i5_3)] (Mo.and Mo.tt _) (Ow.star (Blk b3_2 [i64 b_1.kind, str b_1.data, b_1.items.val, i64 b_1.tree, b_1.parents.val, i64 b_1.time, str b_1.text] 39) (Ow.star (Blk b2_1 [i64 a_0.kind, str a_0.data, a_0.items.val, i64 a_0.tree, a_0.parents.val, i64 a_0.time, str a_0.text] 39) (Ow.emp)))
  refine Zq (Zq (Zr ?_))
  refine Zm ?_
  refine VL.q (q_field gfa39_2 rfl) (by decide) ?_
  refine VL.q (q_fe gone37 rfl rfl) (by decide) ?_
  refine VL.q (q_ln (s := a_0.items) Tryz.underlying37 rfl) (by decide) ?_
  refine VL.q (q_lss rfl rfl) (by decide) ?_
  refine Zl ?_
  refine VC.cond_dec rfl (fun h34 => ?_) (fun h34 => ?_)
  ·
   replace hS := it_t h34 hS
   refine Zk ?_
   refine Zq (Zb (Zq ?_))
   refine VC.draw ((List.range 11).map fun k => (k, true)) mixed (by kernel_rfl) (by kernel_rfl) (by kernel_rfl) ?_
   refine VD.q rfl (q_field gfa39_2 rfl) (by decide) ?_
   refine VD.q rfl (q_fe gone37 rfl rfl) (by decide) ?_
   refine VD.q rfl (q_move rfl) (by decide) ?_
   obtain ⟨z40_4, nz40_4, hz40_4, hS⟩ := at_s hS
   refine VD.q rfl (q_ixm (s := a_0.items) Tryz.underlying37 gsz142 rfl rfl nz40_4 (lt_of_get nz40_4 hz40_4)) (by decide) ?_
   refine VD.q rfl (q_els (s := a_0.items) gagg142 rfl rfl hz40_4) (by decide) ?_
   refine VD.q rfl (q_field gfa39_2 rfl) (by decide) ?_
   refine VD.q rfl (q_fe gone37 rfl rfl) (by decide) ?_
   refine VD.q rfl (q_move rfl) (by decide) ?_
   obtain ⟨z45_5, nz45_5, hz45_5, hS⟩ := at_s hS
   refine VD.q rfl (q_ixm (s := b_1.items) Tryz.underlying37 gsz142 rfl rfl nz45_5 (lt_of_get nz45_5 hz45_5)) (by decide) ?_
   refine VD.q rfl (q_els (s := b_1.items) gagg142 rfl rfl hz45_5) (by decide) ?_
   refine VD.q rfl (q_stneq geqg142 (geqs142 z40_4.path z40_4.mode z40_4.blob z45_5.path z45_5.mode z45_5.blob) rfl rfl) (by decide) ?_
   refine VD.to (fun _ _ h => h) ?_
   refine VC.keep (ρ' := [(2, ptr b2_1 0), (3, ptr b3_2 0), (5, i64 i5_3), (47, .bool (!decide (z40_4.path = z45_5.path ∧ z40_4.mode = z45_5.mode ∧ z40_4.blob = z45_5.blob)))]) [2, 3, 5, 47] rfl ?_
   refine VC.cond_ndec rfl (fun h47 => ?_) (fun h47 => ?_)
   ·
    replace hS := it_f h47 hS
    refine Zq (Zr ?_)
    refine Za ?_
    refine Zl ?_
    replace hS := up2 hS hK1
    cases hS
    exact Ze
   replace hS := it_t h47 hS
   refine Zk ?_
   refine Zr ?_
   refine Zm ?_
   obtain ⟨b36, hS⟩ := gd_s hS
   refine VL.q (q_add rfl rfl b36) (by decide) ?_
   refine Za ?_
   refine VL.rnd (i5_3 + 1) [2, 3, 5] (fun _ _ h => h) (go2 hS hK1) rfl
  replace hS := it_f h34 hS
  replace hS := up2 hS hK1
  refine Zx ?_
  refine Zq (Zr ?_)
  refine Za ?_
  refine Zl ?_
  cases hS
  exact Ze
 replace hS := it_f h21 hS
 refine Zq (Zr ?_)
 refine VL.q (q_eql rfl rfl) (by decide) ?_
 refine Za ?_
 refine Zl ?_
 refine VC.cond_dec rfl (fun h48 => ?_) (fun h48 => ?_)
 ·
  replace hS := it_t h48 hS
  refine Zq ?_
  refine VC.cutJ (S := Bool) (fun (x77_6 : Bool) => x77_6) (fun (x77_6 : Bool) => [(2, ptr b2_1 0), (3, ptr b3_2 0), (77, .bool x77_6)]) (fun (x77_6 : Bool) => Mo.tt) (fun (x77_6 : Bool) => Ow.star (Blk b3_2 [i64 b_1.kind, str b_1.data, b_1.items.val, i64 b_1.tree, b_1.parents.val, i64 b_1.time, str b_1.text] 39) (Ow.star (Blk b2_1 [i64 a_0.kind, str a_0.data, a_0.items.val, i64 a_0.tree, a_0.parents.val, i64 a_0.time, str a_0.text] 39) (Ow.emp))) hS ?_ ?_
  ·
   clear hS
   intro k7 hS
   refine Zr ?_
   refine VL.q (q_field gfa39_3 rfl) (by decide) ?_
   refine VL.q (q_fe gone3 rfl rfl) (by decide) ?_
   refine VL.q (q_field gfa39_3 rfl) (by decide) ?_
   refine VL.q (q_fe gone3 rfl rfl) (by decide) ?_
   refine VL.q (q_neq rfl rfl) (by decide) ?_
   refine Zm ?_
   refine VL.split_ndec 55 rfl (fun h55 => ?_) (fun h55 => ?_)
   ·
    replace hS := it_f h55 hS
    refine VL.runs 22 [(77, some true)] (by kernel_rfl) ?_
    refine VL.mt true [2, 3, 77] (fun _ _ h => h) hS rfl
   replace hS := it_t h55 hS
   refine VL.gy rfl rfl (q_field gfa39_4 rfl) (by decide) ?_
   refine VL.gy rfl rfl (q_fe gone32 rfl rfl) (by decide) ?_
   refine VL.gy rfl rfl (q_ln (s := a_0.parents) Tryz.underlying32 rfl) (by decide) ?_
   refine VL.gy rfl rfl (q_field gfa39_4 rfl) (by decide) ?_
   refine VL.gy rfl rfl (q_fe gone32 rfl rfl) (by decide) ?_
   refine VL.gy rfl rfl (q_ln (s := b_1.parents) Tryz.underlying32 rfl) (by decide) ?_
   refine VL.gy rfl rfl (q_neq rfl rfl) (by decide) ?_
   refine Zf ?_
   refine Zm ?_
   refine VL.split_ndec 64 rfl (fun h64 => ?_) (fun h64 => ?_)
   ·
    replace hS := it_f h64 hS
    refine VL.runs 13 [(77, some true)] (by kernel_rfl) ?_
    refine VL.mt true [2, 3, 77] (fun _ _ h => h) hS rfl
   replace hS := it_t h64 hS
   refine VL.gy rfl rfl (q_field gfa39_5 rfl) (by decide) ?_
   refine VL.gy rfl rfl (q_fe gone3 rfl rfl) (by decide) ?_
   refine VL.gy rfl rfl (q_field gfa39_5 rfl) (by decide) ?_
   refine VL.gy rfl rfl (q_fe gone3 rfl rfl) (by decide) ?_
   refine VL.gy rfl rfl (q_neq rfl rfl) (by decide) ?_
   refine Zf ?_
   refine Zm ?_
   refine VL.split_ndec 71 rfl (fun h71 => ?_) (fun h71 => ?_)
   ·
    replace hS := it_f h71 hS
    refine VL.runs 6 [(77, some true)] (by kernel_rfl) ?_
    refine VL.mt true [2, 3, 77] (fun _ _ h => h) hS rfl
   replace hS := it_t h71 hS
   refine VL.gy rfl rfl (q_field gfa39_6 rfl) (by decide) ?_
   refine VL.gy rfl rfl (q_fe gone9 rfl rfl) (by decide) ?_
   refine VL.gy rfl rfl (q_field gfa39_6 rfl) (by decide) ?_
   refine VL.gy rfl rfl (q_fe gone9 rfl rfl) (by decide) ?_
   refine VL.gy rfl rfl (q_sne rfl rfl) (by decide) ?_
   refine Zf ?_
   refine VL.mt (!decide (a_0.text = b_1.text)) [2, 3, 77] (fun _ _ h => h) hS rfl
  clear hS
  rintro x77_6 hS
  show VC _ _ _ _ _ [(2, ptr b2_1 0), (3, ptr b3_2 0), (77, .bool x77_6)] (Mo.and Mo.tt _) (Ow.star (Blk b3_2 [i64 b_1.kind, str b_1.data, b_1.items.val, i64 b_1.tree, b_1.parents.val, i64 b_1.time, str b_1.text] 39) (Ow.star (Blk b2_1 [i64 a_0.kind, str a_0.data, a_0.items.val, i64 a_0.tree, a_0.parents.val, i64 a_0.time, str a_0.text] 39) (Ow.emp)))
  refine VC.cond rfl (fun h77 => ?_) (fun h77 => ?_)
  ·
   replace hS := it_t h77 hS
   refine Zq (Zr ?_)
   refine Za ?_
   refine Zl ?_
   cases hS
   exact Ze
  replace hS := it_b h77 hS
  refine Zk ?_
  refine Zq (Zr ?_)
  refine Za ?_
  refine Zl ?_
  refine Zb ?_
  refine VC.iter (S := Int) (fun (i6_8 : Int) => i6_8) (fun (i6_8 : Int) => [(2, ptr b2_1 0), (3, ptr b3_2 0), (6, i64 i6_8)]) (fun (i6_8 : Int) => Mo.tt) (fun (i6_8 : Int) => Ow.star (Blk b3_2 [i64 b_1.kind, str b_1.data, b_1.items.val, i64 b_1.tree, b_1.parents.val, i64 b_1.time, str b_1.text] 39) (Ow.star (Blk b2_1 [i64 a_0.kind, str a_0.data, a_0.items.val, i64 a_0.tree, a_0.parents.val, i64 a_0.time, str a_0.text] 39) (Ow.emp))) 0 [2, 3, 6] hS rfl ?_
  clear hS
  rintro i6_8 m1 y1 hS hK1
  show VC _ _ _ _ _ [(2, ptr b2_1 0), (3, ptr b3_2 0), (6, i64 i6_8)] (Mo.and Mo.tt _) (Ow.star (Blk b3_2 [i64 b_1.kind, str b_1.data, b_1.items.val, i64 b_1.tree, b_1.parents.val, i64 b_1.time, str b_1.text] 39) (Ow.star (Blk b2_1 [i64 a_0.kind, str a_0.data, a_0.items.val, i64 a_0.tree, a_0.parents.val, i64 a_0.time, str a_0.text] 39) (Ow.emp)))
  refine Zq (Zq (Zr ?_))
  refine Zm ?_
  refine VL.q (q_field gfa39_4 rfl) (by decide) ?_
  refine VL.q (q_fe gone32 rfl rfl) (by decide) ?_
  refine VL.q (q_ln (s := a_0.parents) Tryz.underlying32 rfl) (by decide) ?_
  refine VL.q (q_lss rfl rfl) (by decide) ?_
  refine Zl ?_
  refine VC.cond_dec rfl (fun h82 => ?_) (fun h82 => ?_)
  ·
   replace hS := it_t h82 hS
   refine Zk ?_
   refine Zq (Zb (Zq ?_))
   refine VC.draw ((List.range 11).map fun k => (k, true)) mixed (by kernel_rfl) (by kernel_rfl) (by kernel_rfl) ?_
   refine VD.q rfl (q_field gfa39_4 rfl) (by decide) ?_
   refine VD.q rfl (q_fe gone32 rfl rfl) (by decide) ?_
   refine VD.q rfl (q_move rfl) (by decide) ?_
   obtain ⟨z88_9, nz88_9, hz88_9, hS⟩ := at_s hS
   refine VD.q rfl (q_ixm (s := a_0.parents) Tryz.underlying32 gsz3 rfl rfl nz88_9 (lt_of_get nz88_9 hz88_9)) (by decide) ?_
   refine VD.q rfl (q_el (s := a_0.parents) gone3 rfl hz88_9 rfl) (by decide) ?_
   refine VD.q rfl (q_field gfa39_4 rfl) (by decide) ?_
   refine VD.q rfl (q_fe gone32 rfl rfl) (by decide) ?_
   refine VD.q rfl (q_move rfl) (by decide) ?_
   obtain ⟨z93_10, nz93_10, hz93_10, hS⟩ := at_s hS
   refine VD.q rfl (q_ixm (s := b_1.parents) Tryz.underlying32 gsz3 rfl rfl nz93_10 (lt_of_get nz93_10 hz93_10)) (by decide) ?_
   refine VD.q rfl (q_el (s := b_1.parents) gone3 rfl hz93_10 rfl) (by decide) ?_
   refine VD.q rfl (q_neq rfl rfl) (by decide) ?_
   refine VD.to (fun _ _ h => h) ?_
   refine VC.keep (ρ' := [(2, ptr b2_1 0), (3, ptr b3_2 0), (6, i64 i6_8), (95, .bool (!decide (z88_9 = z93_10)))]) [2, 3, 6, 95] rfl ?_
   refine VC.cond_ndec rfl (fun h95 => ?_) (fun h95 => ?_)
   ·
    replace hS := it_f h95 hS
    refine Zq (Zr ?_)
    refine Za ?_
    refine Zl ?_
    replace hS := up2 hS hK1
    cases hS
    exact Ze
   replace hS := it_t h95 hS
   refine Zk ?_
   refine Zr ?_
   refine Zm ?_
   obtain ⟨b84, hS⟩ := gd_s hS
   refine VL.q (q_add rfl rfl b84) (by decide) ?_
   refine Za ?_
   refine VL.rnd (i6_8 + 1) [2, 3, 6] (fun _ _ h => h) (go2 hS hK1) rfl
  replace hS := it_f h82 hS
  replace hS := up2 hS hK1
  refine Zx ?_
  refine Zq (Zr ?_)
  refine Za ?_
  refine Zl ?_
  cases hS
  exact Ze
 replace hS := it_f h48 hS
 refine Zk ?_
 refine Zq (Zr ?_)
 refine Za ?_
 refine Zl ?_
 cases hS
 exact Ze
theorem rectolaw8_same_ct (s_0_b : Nat) (s_0 : StoreStore) (l_1 : Sv Rectoref7Object) {r : Bool} (hS : Sh.rectolaw8_same s_0.pl (l_1.l.map Rectoref7Object.pl) = some r) :
 Ct Tryz.prog 19 [ptr s_0_b 0, l_1.val] ((MAl s_0.l.l).and l_1.ok) (Ow.star (Sv.own s_0.l 34) (Ow.star (Mv.own s_0.by_ Tryz.prog 9 3 kStr kInt) (Blk s_0_b [s_0.l.val, s_0.by_.val] 139))) (X := Unit) (fun _ => .bool r) (fun _ => True) (fun _ => Mo.tt) (fun _ => Ow.star (Blk s_0_b [s_0.l.val, s_0.by_.val] 139) (Ow.star (Sv.own s_0.l 34) (Mv.own s_0.by_ Tryz.prog 9 3 kStr kInt))) := by
 refine Ct.of Tryz.func19 rfl (by kernel_rfl) Tryz.ntmps19 (by simp) fun c => ?_
 unfold Sh.rectolaw8_same at hS
 refine Zq (Zr ?_)
 refine Za ?_
 refine Zl ?_
 refine Zq (Zq (Zr ?_))
 refine Zm ?_
 refine VL.q (q_peqn Tryz.underlying24 rfl) (by decide) ?_
 refine Zm ?_
 refine Zg ?_
 refine VL.guard rfl rfl ?_
 obtain ⟨y14_1, ey14_1, hS⟩ := bd_s hS
 refine VL.callO (store_Store_Len_ct s_0_b s_0 ey14_1) rfl (by decide) ?_
 rintro _ _
 try dsimp only
 refine Zg ?_
 refine VL.gy rfl rfl (q_lnm Rectoref7Object.pl (s := l_1) Tryz.underlying30 rfl) (by decide) ?_
 refine VL.gy rfl rfl (q_neq rfl rfl) (by decide) ?_
 refine Zf ?_
 refine Zl ?_
 refine VC.keep (ρ' := [(0, ptr s_0_b 0), (1, l_1.val), (18, .bool (!decide (y14_1 = ((l_1.l.map Rectoref7Object.pl).length : Int))))]) [0, 1, 18] rfl ?_
 refine VC.cond_ndec rfl (fun h18 => ?_) (fun h18 => ?_)
 ·
  replace hS := it_f h18 hS
  refine Zq (Zr ?_)
  refine Za ?_
  refine Zl ?_
  cases hS
  exact VC.ret (fin1 (.inr rfl) rfl rfl () rfl trivial (fun _ _ => trivial) (by (try dsimp only); exact EntO.out))
 replace hS := it_t h18 hS
 refine Zk ?_
 refine Zq (Zq (Zr ?_))
 refine Za ?_
 refine Zl ?_
 refine Zb ?_
 refine VC.iter (S := Int) (fun (id5_2 : Int) => id5_2) (fun (id5_2 : Int) => [(0, ptr s_0_b 0), (1, l_1.val), (5, i64 id5_2)]) (fun (id5_2 : Int) => Mo.tt) (fun (id5_2 : Int) => Ow.star (Blk s_0_b [s_0.l.val, s_0.by_.val] 139) (Ow.star (Mv.own s_0.by_ Tryz.prog 9 3 kStr kInt) (Ow.star (Sv.own s_0.l 34) (Ow.emp)))) 1 [0, 1, 5] hS rfl ?_
 clear hS
 rintro id5_2 m1 y1 hS hK1
 show VC _ _ _ _ _ [(0, ptr s_0_b 0), (1, l_1.val), (5, i64 id5_2)] (Mo.and Mo.tt _) (Ow.star (Blk s_0_b [s_0.l.val, s_0.by_.val] 139) (Ow.star (Mv.own s_0.by_ Tryz.prog 9 3 kStr kInt) (Ow.star (Sv.own s_0.l 34) (Ow.emp))))
 refine Zq (Zq (Zr ?_))
 refine Zm ?_
 refine Zm ?_
 refine VL.q (q_lnm Rectoref7Object.pl (s := l_1) Tryz.underlying30 rfl) (by decide) ?_
 refine VL.q (q_leq rfl rfl) (by decide) ?_
 refine Zl ?_
 refine VC.cond_dec rfl (fun h22 => ?_) (fun h22 => ?_)
 ·
  replace hS := it_t h22 hS
  refine Zk ?_
  refine Zq (Zb (Zq (Zr ?_)))
  refine Zm ?_
  refine Zm ?_
  obtain ⟨y28_3, ey28_3, hS⟩ := bd_s hS
  refine VL.callO (store_Store_Get_ct s_0_b s_0 id5_2 ey28_3) rfl (by decide) ?_
  rintro ⟨q28_3_0, q28_3_1⟩ rfl
  try dsimp only
  refine Zm ?_
  refine VL.q (q_extract rfl rfl) (by decide) ?_
  refine VL.q (q_extract rfl rfl) (by decide) ?_
  refine VL.alloc (cs := [i64 0, .slice none 0 0, .slice none 0 0, i64 0, .slice none 0 0, i64 0, str []]) (by kernel_rfl) (by decide) fun b6_4 => ?_
  refine VL.store (vc := [i64 q28_3_0.kind, q28_3_0.data.val, q28_3_0.items.val, i64 q28_3_0.tree, q28_3_0.parents.val, i64 q28_3_0.time, str q28_3_0.text]) (cs' := [i64 q28_3_0.kind, q28_3_0.data.val, q28_3_0.items.val, i64 q28_3_0.tree, q28_3_0.parents.val, i64 q28_3_0.time, str q28_3_0.text]) rfl rfl rfl gsz34 rfl rfl (Nat.le_of_ble_eq_true rfl) rfl ?_
  refine Za ?_
  refine Zl ?_
  refine VC.keep (ρ' := [(0, ptr s_0_b 0), (1, l_1.val), (5, i64 id5_2), (6, ptr b6_4 0), (7, .bool q28_3_1)]) [0, 1, 5, 6, 7] rfl ?_
  refine VC.cutJ (S := Bool) (fun (x43_5 : Bool) => x43_5) (fun (x43_5 : Bool) => [(0, ptr s_0_b 0), (1, l_1.val), (5, i64 id5_2), (43, .bool x43_5)]) (fun (x43_5 : Bool) => Mo.tt) (fun (x43_5 : Bool) => Ow.star (Blk b6_4 [i64 q28_3_0.kind, q28_3_0.data.val, q28_3_0.items.val, i64 q28_3_0.tree, q28_3_0.parents.val, i64 q28_3_0.time, str q28_3_0.text] 34) (Ow.star (Blk s_0_b [s_0.l.val, s_0.by_.val] 139) (Ow.star (Mv.own s_0.by_ Tryz.prog 9 3 kStr kInt) (Ow.star (Sv.own s_0.l 34) (Ow.emp))))) hS ?_ ?_
  ·
   clear hS
   intro k6 hS
   refine VC.draw [(0, true), (1, true), (2, true), (3, true), (5, true), (6, true), (7, true), (8, true), (9, true), (4, false), (10, true), (11, true), (12, true)] mixed (by kernel_rfl) (by kernel_rfl) (by kernel_rfl) ?_
   refine VD.q rfl (q_move rfl) (by decide) ?_
   refine VD.q rfl (q_not rfl) (by decide) ?_
   refine VD.q rfl (q_move rfl) (by decide) ?_
   refine VD.split 33 rfl (fun h33 => ?_) (fun h33 => ?_)
   ·
    replace hS := it_t h33 hS
    refine Zd ?_
    refine Zd ?_
    refine Zd ?_
    refine Zd ?_
    refine Zd ?_
    refine Zd ?_
    refine VD.oneN (D' := [(9, undef), (8, undef), (7, undef), (6, undef), (5, undef)]) rfl rfl rfl (by decide) (by decide) (by kernel_rfl) (Pend.consN rfl rfl rfl rfl (Pend.consN rfl rfl rfl rfl (Pend.consN rfl rfl rfl rfl (Pend.consN rfl rfl rfl rfl (Pend.consN rfl rfl rfl rfl (Pend.nil)))))) ?_
    refine Zd ?_
    refine Zd ?_
    refine VD.q rfl (q_pick_t rfl rfl) (by decide) ?_
    refine VD.mt true [0, 1, 5, 43] (fun _ _ h => h) hS rfl
   replace hS := it_b h33 hS
   refine VD.gy rfl rfl rfl (q_fes gagg34 rfl rfl) (by decide) ?_
   refine VD.gy rfl rfl rfl (q_move rfl) (by decide) ?_
   refine VD.gy rfl rfl rfl (q_move rfl) (by decide) ?_
   obtain ⟨b38, hS⟩ := gd_s hS
   refine VD.gy rfl rfl rfl (q_sub rfl rfl b38) (by decide) ?_
   obtain ⟨z39_7, nz39_7, hz39_7, hS⟩ := atm_s hS
   refine VD.deep z39_7.m hz39_7 (fun _ q => q) ?_
   refine VD.gy rfl rfl rfl (q_ixm (s := l_1) Tryz.underlying30 gsz39 rfl rfl nz39_7 (lt_of_get nz39_7 hz39_7)) (by decide) ?_
   refine VD.gy rfl rfl rfl (q_els (s := l_1) gagg39 rfl rfl hz39_7) (by decide) ?_
   refine VD.oneG rfl rfl rfl ?_
   refine VL.guard rfl rfl ?_
   obtain ⟨y35_8, ey35_8, hS⟩ := bd_s hS
   refine VL.callF (rectolaw7_Of_ct (⟨q28_3_0.kind, q28_3_0.data, q28_3_0.items, q28_3_0.tree, q28_3_0.parents, q28_3_0.time, q28_3_0.text⟩ : ObjectObject) ey35_8) rfl (by decide) ?_
   rintro q35_8_0 rfl
   try dsimp only
   refine VL.back (D' := [(9, .agg #[i64 z39_7.kind, str z39_7.data, z39_7.items.val, i64 z39_7.tree, z39_7.parents.val, i64 z39_7.time, str z39_7.text]), (8, ptr l_1.b (l_1.o + ((id5_2 - 1)).toNat * Dat.sz Rectoref7Object + 0)), (7, i64 (id5_2 - 1)), (6, i64 id5_2), (5, l_1.val)]) (by kernel_rfl) (Pend.consG rfl rfl rfl (q_els (s := l_1) gagg39 rfl rfl hz39_7) (Pend.consG rfl rfl rfl (q_ixm (s := l_1) Tryz.underlying30 gsz39 rfl rfl nz39_7 (lt_of_get nz39_7 hz39_7)) (Pend.consG rfl rfl rfl (q_sub rfl rfl b38) (Pend.consG rfl rfl rfl (q_move rfl) (Pend.consG rfl rfl rfl (q_move rfl) (Pend.nil)))))) ?_
   obtain ⟨y41_9, ey41_9, hS⟩ := bd_s hS
   refine VD.gy rfl rfl rfl (q_call (rectoref7_Same_ct (⟨q35_8_0.kind, q35_8_0.data, q35_8_0.items, q35_8_0.tree, q35_8_0.parents, q35_8_0.time, q35_8_0.text⟩ : Rectoref7Object) (⟨z39_7.kind, z39_7.data, z39_7.items, z39_7.tree, z39_7.parents, z39_7.time, z39_7.text⟩ : Rectoref7Object) ey41_9) rfl (fun _ _ => rfl)) (by decide) ?_
   refine VD.gy rfl rfl rfl (q_not rfl) (by decide) ?_
   refine VD.q rfl (q_pick_f rfl rfl) (by decide) ?_
   refine VD.mt (!y41_9) [0, 1, 5, 43] (fun _ _ h => h) hS rfl
  clear hS
  rintro x43_5 hS
  show VC _ _ _ _ _ [(0, ptr s_0_b 0), (1, l_1.val), (5, i64 id5_2), (43, .bool x43_5)] (Mo.and Mo.tt _) (Ow.star (Blk b6_4 [i64 q28_3_0.kind, q28_3_0.data.val, q28_3_0.items.val, i64 q28_3_0.tree, q28_3_0.parents.val, i64 q28_3_0.time, str q28_3_0.text] 34) (Ow.star (Blk s_0_b [s_0.l.val, s_0.by_.val] 139) (Ow.star (Mv.own s_0.by_ Tryz.prog 9 3 kStr kInt) (Ow.star (Sv.own s_0.l 34) (Ow.emp)))))
  refine VC.cond rfl (fun h43 => ?_) (fun h43 => ?_)
  ·
   replace hS := it_t h43 hS
   refine Zq (Zr ?_)
   refine Za ?_
   refine Zl ?_
   replace hS := up2 hS hK1
   cases hS
   exact VC.ret (fin1 (.inr rfl) rfl rfl () rfl trivial (fun _ _ => trivial) (by (try dsimp only); exact EntO.out))
  replace hS := it_b h43 hS
  refine Zk ?_
  refine Zr ?_
  refine Zm ?_
  obtain ⟨b24, hS⟩ := gd_s hS
  refine VL.q (q_add rfl rfl b24) (by decide) ?_
  refine Za ?_
  refine VL.rnd (id5_2 + 1) [0, 1, 5] (fun _ _ h => h) (go2 hS hK1) rfl
 replace hS := it_f h22 hS
 replace hS := up2 hS hK1
 refine Zx ?_
 refine Zq (Zr ?_)
 refine Zm ?_
 refine Zm ?_
 refine VL.q (q_lnm Rectoref7Object.pl (s := l_1) Tryz.underlying30 rfl) (by decide) ?_
 obtain ⟨b48, hS⟩ := gd_s hS
 refine VL.q (q_add rfl rfl b48) (by decide) ?_
 obtain ⟨y49_10, ey49_10, hS⟩ := bd_s hS
 refine VL.callO (store_Store_Get_ct s_0_b s_0 (((l_1.l.map Rectoref7Object.pl).length : Int) + 1) ey49_10) rfl (by decide) ?_
 rintro ⟨q49_10_0, q49_10_1⟩ rfl
 try dsimp only
 refine Zm ?_
 refine VL.q (q_extract rfl rfl) (by decide) ?_
 refine VL.q (q_extract rfl rfl) (by decide) ?_
 refine VL.alloc (cs := [i64 0, .slice none 0 0, .slice none 0 0, i64 0, .slice none 0 0, i64 0, str []]) (by kernel_rfl) (by decide) fun b8_11 => ?_
 refine VL.store (vc := [i64 q49_10_0.kind, q49_10_0.data.val, q49_10_0.items.val, i64 q49_10_0.tree, q49_10_0.parents.val, i64 q49_10_0.time, str q49_10_0.text]) (cs' := [i64 q49_10_0.kind, q49_10_0.data.val, q49_10_0.items.val, i64 q49_10_0.tree, q49_10_0.parents.val, i64 q49_10_0.time, str q49_10_0.text]) rfl rfl rfl gsz34 rfl rfl (Nat.le_of_ble_eq_true rfl) rfl ?_
 refine Za ?_
 refine Zl ?_
 refine VC.keep (ρ' := [(9, .bool q49_10_1)]) [9] rfl ?_
 refine Zq (Zr ?_)
 refine Zm ?_
 refine VL.q (q_not rfl) (by decide) ?_
 refine Za ?_
 refine Zl ?_
 cases hS
 exact VC.ret (fin1 (.inr rfl) rfl rfl () rfl trivial (fun _ _ => trivial) (by (try dsimp only); exact EntO.out))
theorem rectolaw8_StoreBytes_ct (b_0 : Sv UInt8) {r : Bool} (hS : Sh.rectolaw8_StoreBytes b_0.l = some r) :
 Ct Tryz.prog 3 [b_0.val] b_0.ok (Ow.emp) (X := Unit) (fun _ => .bool r) (fun _ => True) (fun _ => Mo.tt) (fun _ => Ow.emp) := by
 refine Ct.of Tryz.func3 rfl (by kernel_rfl) Tryz.ntmps3 (by simp) fun c => ?_
 unfold Sh.rectolaw8_StoreBytes at hS
 refine Zq (Zr ?_)
 refine Za ?_
 refine Zl ?_
 refine Zq (Zq (Zr ?_))
 obtain ⟨y13_1, ey13_1, hS⟩ := bd_s hS
 refine VL.q (q_call (rectolaw8_known_ct ey13_1) rfl (fun _ _ => rfl)) (by decide) ?_
 refine VL.q (q_not rfl) (by decide) ?_
 refine Zl ?_
 refine VC.cond rfl (fun h14 => ?_) (fun h14 => ?_)
 ·
  replace hS := it_t h14 hS
  refine Zq (Zr ?_)
  refine Za ?_
  refine Zl ?_
  cases hS
  exact Ze
 replace hS := it_b h14 hS
 refine Zk ?_
 refine Zq (Zq (Zr ?_))
 refine Zm ?_
 refine VL.q (q_ln (s := b_0) Tryz.underlying22 rfl) (by decide) ?_
 refine VL.q (q_gtr rfl rfl) (by decide) ?_
 refine Zl ?_
 refine VC.cond_dec rfl (fun h17 => ?_) (fun h17 => ?_)
 ·
  replace hS := it_t h17 hS
  refine Zq (Zr ?_)
  refine Za ?_
  refine Zl ?_
  cases hS
  exact Ze
 replace hS := it_f h17 hS
 refine Zk ?_
 refine Zq (Zr ?_)
 refine Zm ?_
 obtain ⟨y20_2, ey20_2, hS⟩ := bd_s hS
 refine VL.callO (store_Load_ct b_0 ey20_2) rfl (by decide) ?_
 rintro (q20_2_0 | ⟨q20_2_0, q20_2_1⟩) rfl
 ·
  try dsimp only at hS
  try dsimp only
  refine Zm ?_
  refine VL.q (q_extract rfl rfl) (by decide) ?_
  refine VL.q (q_extract rfl rfl) (by decide) ?_
  refine Za ?_
  refine Za ?_
  refine Zl ?_
  refine VC.keep (ρ' := [(3, .pointer none), (4, q20_2_0.val)]) [3, 4] rfl ?_
  refine Zq (Zq (Zr ?_))
  refine Zm ?_
  refine VL.q (q_erne Tryz.underlying26 rfl) (by decide) ?_
  refine Zl ?_
  refine VC.cond_ndec rfl (fun h24 => ?_) (fun h24 => ?_)
  ·
   replace hS := it_f h24 hS
   refine Zq (Zr ?_)
   refine Zm ?_
   refine VL.q (q_peqn Tryz.underlying24 rfl) (by decide) ?_
   refine Za ?_
   refine Zl ?_
   cases hS
   exact Ze
  replace hS := it_t h24 hS
  refine Zk ?_
  refine Zq (Zq (Zr ?_))
  refine Zm ?_
  refine VL.q (q_peqn Tryz.underlying24 rfl) (by decide) ?_
  refine Zm ?_
  refine VL.runs 4 [(33, some true)] (by kernel_rfl) ?_
  refine Zl ?_
  refine VC.cond_t rfl ?_
  refine Zq (Zr ?_)
  refine Za ?_
  refine Zl ?_
  cases hS
  exact Ze
 try dsimp only at hS
 try dsimp only
 refine Zm ?_
 refine VL.q (q_extract rfl rfl) (by decide) ?_
 refine VL.q (q_extract rfl rfl) (by decide) ?_
 refine Za ?_
 refine Za ?_
 refine Zl ?_
 refine VC.keep (ρ' := [(3, ptr q20_2_0 0), (4, .nilIface)]) [3, 4] rfl ?_
 refine Zq (Zq (Zr ?_))
 refine Zm ?_
 refine VL.q (q_nilne Tryz.underlying26 rfl) (by decide) ?_
 refine Zl ?_
 refine VC.cond_f rfl ?_
 refine Zk ?_
 refine Zq (Zq (Zr ?_))
 refine Zm ?_
 refine VL.q (q_peqn Tryz.underlying24 rfl) (by decide) ?_
 refine Zm ?_
 refine Zg ?_
 refine VL.guard rfl rfl ?_
 obtain ⟨y31_3, ey31_3, hS⟩ := bd_s hS
 refine VL.callO (store_Store_Len_ct q20_2_0 q20_2_1 ey31_3) rfl (by decide) ?_
 rintro _ _
 try dsimp only
 refine VL.gy rfl rfl (q_gtr rfl rfl) (by decide) ?_
 refine Zf ?_
 refine Zl ?_
 refine VC.keep (ρ' := [(3, ptr q20_2_0 0), (33, .bool (decide (4096 < y31_3)))]) [3, 33] rfl ?_
 refine VC.cond_dec rfl (fun h33 => ?_) (fun h33 => ?_)
 ·
  replace hS := it_t h33 hS
  refine Zq (Zr ?_)
  refine Za ?_
  refine Zl ?_
  cases hS
  exact Ze
 replace hS := it_f h33 hS
 refine Zk ?_
 refine Zq (Zr ?_)
 refine Za ?_
 refine Zl ?_
 refine Zq (Zq (Zr ?_))
 refine Za ?_
 refine Zl ?_
 refine Zb ?_
 refine VC.nilO (⟨none, 0, []⟩ : Sv Rectoref7Object) 39 ⟨rfl, rfl⟩ ?_
 refine VC.maNil (s := (⟨none, 0, []⟩ : Sv Rectoref7Object)) rfl ?_
 refine VC.iter (S := Sv Rectoref7Object × Int) (fun sg => ((sg.1.l.map Rectoref7Object.pl), sg.2)) (fun sg => [(3, ptr q20_2_0 0), (5, sg.1.val), (6, i64 sg.2)]) (fun sg => (MAl sg.1.l)) (fun sg => Ow.star (Blk q20_2_0 [q20_2_1.l.val, q20_2_1.by_.val] 139) (Ow.star (Mv.own q20_2_1.by_ Tryz.prog 9 3 kStr kInt) (Ow.star (Sv.own q20_2_1.l 34) (Ow.star (Sv.own sg.1 39) (Ow.emp))))) (⟨none, 0, []⟩, 1) [3, 5, 6] hS rfl ?_
 clear hS
 rintro ⟨m5_4, id6_5⟩ m1 y1 hS hK1
 show VC _ _ _ _ _ [(3, ptr q20_2_0 0), (5, m5_4.val), (6, i64 id6_5)] (Mo.and (MAl m5_4.l) _) (Ow.star (Blk q20_2_0 [q20_2_1.l.val, q20_2_1.by_.val] 139) (Ow.star (Mv.own q20_2_1.by_ Tryz.prog 9 3 kStr kInt) (Ow.star (Sv.own q20_2_1.l 34) (Ow.star (Sv.own m5_4 39) (Ow.emp)))))
 refine Zq (Zq (Zr ?_))
 refine Zm ?_
 refine Zm ?_
 obtain ⟨y36_6, ey36_6, hS⟩ := bd_s hS
 refine VL.callO (store_Store_Len_ct q20_2_0 q20_2_1 ey36_6) rfl (by decide) ?_
 rintro _ _
 try dsimp only
 refine VL.q (q_leq rfl rfl) (by decide) ?_
 refine Zl ?_
 refine VC.cond_dec rfl (fun h37 => ?_) (fun h37 => ?_)
 ·
  replace hS := it_t h37 hS
  refine Zk ?_
  refine VC.cutJ (S := Sv Rectoref7Object) (fun (m5_7 : Sv Rectoref7Object) => (m5_7.l.map Rectoref7Object.pl)) (fun (m5_7 : Sv Rectoref7Object) => [(3, ptr q20_2_0 0), (5, m5_7.val), (6, i64 id6_5)]) (fun (m5_7 : Sv Rectoref7Object) => (MAl m5_7.l)) (fun (m5_7 : Sv Rectoref7Object) => Ow.star (Blk q20_2_0 [q20_2_1.l.val, q20_2_1.by_.val] 139) (Ow.star (Mv.own q20_2_1.by_ Tryz.prog 9 3 kStr kInt) (Ow.star (Sv.own q20_2_1.l 34) (Ow.star (Sv.own m5_7 39) (Ow.emp))))) hS ?_ ?_
  ·
   clear hS
   intro k8 hS
   refine Zb (Zq (Zr ?_))
   refine Zm ?_
   refine Zm ?_
   obtain ⟨y43_9, ey43_9, hS⟩ := bd_s hS
   refine VL.callO (store_Store_Get_ct q20_2_0 q20_2_1 id6_5 ey43_9) rfl (by decide) ?_
   rintro ⟨q43_9_0, q43_9_1⟩ rfl
   try dsimp only
   refine Zm ?_
   refine VL.q (q_extract rfl rfl) (by decide) ?_
   refine VL.q (q_extract rfl rfl) (by decide) ?_
   refine VL.alloc (cs := [i64 0, .slice none 0 0, .slice none 0 0, i64 0, .slice none 0 0, i64 0, str []]) (by kernel_rfl) (by decide) fun b7_10 => ?_
   refine VL.store (vc := [i64 q43_9_0.kind, q43_9_0.data.val, q43_9_0.items.val, i64 q43_9_0.tree, q43_9_0.parents.val, i64 q43_9_0.time, str q43_9_0.text]) (cs' := [i64 q43_9_0.kind, q43_9_0.data.val, q43_9_0.items.val, i64 q43_9_0.tree, q43_9_0.parents.val, i64 q43_9_0.time, str q43_9_0.text]) rfl rfl rfl gsz34 rfl rfl (Nat.le_of_ble_eq_true rfl) rfl ?_
   refine Za ?_
   refine Zl ?_
   refine VC.keep (ρ' := [(3, ptr q20_2_0 0), (5, m5_4.val), (6, i64 id6_5), (7, ptr b7_10 0), (8, .bool q43_9_1)]) [3, 5, 6, 7, 8] rfl ?_
   refine Zq (Zr ?_)
   refine VL.q (q_fes gagg34 rfl rfl) (by decide) ?_
   obtain ⟨y47_11, ey47_11, hS⟩ := bd_s hS
   refine VL.callF (rectolaw7_Of_ct (⟨q43_9_0.kind, q43_9_0.data, q43_9_0.items, q43_9_0.tree, q43_9_0.parents, q43_9_0.time, q43_9_0.text⟩ : ObjectObject) ey47_11) rfl (by decide) ?_
   rintro q47_11_0 rfl
   try dsimp only
   refine VL.alloc (cs := [i64 0, str [], .slice none 0 0, i64 0, .slice none 0 0, i64 0, str []]) (by kernel_rfl) (by decide) fun b9_12 => ?_
   refine VL.store (vc := [i64 q47_11_0.kind, str q47_11_0.data, q47_11_0.items.val, i64 q47_11_0.tree, q47_11_0.parents.val, i64 q47_11_0.time, str q47_11_0.text]) (cs' := [i64 q47_11_0.kind, str q47_11_0.data, q47_11_0.items.val, i64 q47_11_0.tree, q47_11_0.parents.val, i64 q47_11_0.time, str q47_11_0.text]) rfl rfl rfl gsz39 rfl rfl (Nat.le_of_ble_eq_true rfl) rfl ?_
   refine Zl ?_
   refine Zq ?_
   refine VC.cutJ (S := Bool) (fun (x56_13 : Bool) => x56_13) (fun (x56_13 : Bool) => [(3, ptr q20_2_0 0), (5, m5_4.val), (6, i64 id6_5), (9, ptr b9_12 0), (56, .bool x56_13)]) (fun (x56_13 : Bool) => Mo.tt) (fun (x56_13 : Bool) => Ow.star (Blk b9_12 [i64 q47_11_0.kind, str q47_11_0.data, q47_11_0.items.val, i64 q47_11_0.tree, q47_11_0.parents.val, i64 q47_11_0.time, str q47_11_0.text] 39) (Ow.star (Blk b7_10 [i64 q43_9_0.kind, q43_9_0.data.val, q43_9_0.items.val, i64 q43_9_0.tree, q43_9_0.parents.val, i64 q43_9_0.time, str q43_9_0.text] 34) (Ow.star (Blk q20_2_0 [q20_2_1.l.val, q20_2_1.by_.val] 139) (Ow.star (Mv.own q20_2_1.by_ Tryz.prog 9 3 kStr kInt) (Ow.star (Sv.own q20_2_1.l 34) (Ow.star (Sv.own m5_4 39) (Ow.emp))))))) hS ?_ ?_
   ·
    clear hS
    intro k14 hS
    refine Zr ?_
    refine Zm ?_
    refine VL.q (q_not rfl) (by decide) ?_
    refine Zm ?_
    refine VL.split 50 rfl (fun h50 => ?_) (fun h50 => ?_)
    ·
     replace hS := it_t h50 hS
     refine VL.runs 6 [(56, some true)] (by kernel_rfl) ?_
     refine VL.mt true [3, 5, 6, 9, 56] (fun _ _ h => h) hS rfl
    replace hS := it_b h50 hS
    refine Zg ?_
    refine VL.gy rfl rfl (q_fes gagg39 rfl rfl) (by decide) ?_
    refine VL.guard rfl rfl ?_
    obtain ⟨y53_15, ey53_15, hS⟩ := bd_s hS
    refine VL.callOR (Ct.noM (rectolaw8_wrong_ct m5_4 (⟨q47_11_0.kind, q47_11_0.data, q47_11_0.items, q47_11_0.tree, q47_11_0.parents, q47_11_0.time, q47_11_0.text⟩ : Rectoref7Object) ey53_15)) rfl (by decide) ?_
    rintro q53_15_0 rfl
    try dsimp only
    refine VL.gy rfl rfl (q_fld Tryz.underlying43 rfl gone3 rfl rfl) (by decide) ?_
    refine VL.gy rfl rfl (q_neq rfl rfl) (by decide) ?_
    refine Zf ?_
    refine VL.mt (!decide (q53_15_0.err = 0)) [3, 5, 6, 9, 56] (fun _ _ h => h) hS rfl
   clear hS
   rintro x56_13 hS
   show VC _ _ _ _ _ [(3, ptr q20_2_0 0), (5, m5_4.val), (6, i64 id6_5), (9, ptr b9_12 0), (56, .bool x56_13)] (Mo.and Mo.tt _) (Ow.star (Blk b9_12 [i64 q47_11_0.kind, str q47_11_0.data, q47_11_0.items.val, i64 q47_11_0.tree, q47_11_0.parents.val, i64 q47_11_0.time, str q47_11_0.text] 39) (Ow.star (Blk b7_10 [i64 q43_9_0.kind, q43_9_0.data.val, q43_9_0.items.val, i64 q43_9_0.tree, q43_9_0.parents.val, i64 q43_9_0.time, str q43_9_0.text] 34) (Ow.star (Blk q20_2_0 [q20_2_1.l.val, q20_2_1.by_.val] 139) (Ow.star (Mv.own q20_2_1.by_ Tryz.prog 9 3 kStr kInt) (Ow.star (Sv.own q20_2_1.l 34) (Ow.star (Sv.own m5_4 39) (Ow.emp)))))))
   refine VC.cond rfl (fun h56 => ?_) (fun h56 => ?_)
   ·
    replace hS := it_t h56 hS
    refine Zq (Zr ?_)
    refine Za ?_
    refine Zl ?_
    replace hS := up2 hS hK1
    cases hS
    exact Ze
   replace hS := it_b h56 hS
   refine Zk ?_
   refine Zq (Zq (Zr ?_))
   refine Za ?_
   refine Zl ?_
   refine Zb ?_
   refine VC.iter (S := Int) (fun (k10_16 : Int) => k10_16) (fun (k10_16 : Int) => [(3, ptr q20_2_0 0), (5, m5_4.val), (6, i64 id6_5), (9, ptr b9_12 0), (10, i64 k10_16)]) (fun (k10_16 : Int) => Mo.tt) (fun (k10_16 : Int) => Ow.star (Blk b9_12 [i64 q47_11_0.kind, str q47_11_0.data, q47_11_0.items.val, i64 q47_11_0.tree, q47_11_0.parents.val, i64 q47_11_0.time, str q47_11_0.text] 39) (Ow.star (Blk b7_10 [i64 q43_9_0.kind, q43_9_0.data.val, q43_9_0.items.val, i64 q43_9_0.tree, q43_9_0.parents.val, i64 q43_9_0.time, str q43_9_0.text] 34) (Ow.star (Blk q20_2_0 [q20_2_1.l.val, q20_2_1.by_.val] 139) (Ow.star (Mv.own q20_2_1.by_ Tryz.prog 9 3 kStr kInt) (Ow.star (Sv.own q20_2_1.l 34) (Ow.star (Sv.own m5_4 39) (Ow.emp))))))) 0 [3, 5, 6, 9, 10] hS rfl ?_
   clear hS
   rintro k10_16 m2 y2 hS hK2
   show VC _ _ _ _ _ [(3, ptr q20_2_0 0), (5, m5_4.val), (6, i64 id6_5), (9, ptr b9_12 0), (10, i64 k10_16)] (Mo.and Mo.tt _) (Ow.star (Blk b9_12 [i64 q47_11_0.kind, str q47_11_0.data, q47_11_0.items.val, i64 q47_11_0.tree, q47_11_0.parents.val, i64 q47_11_0.time, str q47_11_0.text] 39) (Ow.star (Blk b7_10 [i64 q43_9_0.kind, q43_9_0.data.val, q43_9_0.items.val, i64 q43_9_0.tree, q43_9_0.parents.val, i64 q43_9_0.time, str q43_9_0.text] 34) (Ow.star (Blk q20_2_0 [q20_2_1.l.val, q20_2_1.by_.val] 139) (Ow.star (Mv.own q20_2_1.by_ Tryz.prog 9 3 kStr kInt) (Ow.star (Sv.own q20_2_1.l 34) (Ow.star (Sv.own m5_4 39) (Ow.emp)))))))
   refine Zq (Zq (Zr ?_))
   refine Zm ?_
   refine Zm ?_
   refine VL.q (q_lnm Rectoref7Object.pl (s := m5_4) Tryz.underlying30 rfl) (by decide) ?_
   refine VL.q (q_lss rfl rfl) (by decide) ?_
   refine Zl ?_
   refine VC.cond_dec rfl (fun h60 => ?_) (fun h60 => ?_)
   ·
    replace hS := it_t h60 hS
    refine Zk ?_
    refine Zq (Zb (Zq ?_))
    refine VC.draw ((List.range 6).map fun k => (k, true)) mixed (by kernel_rfl) (by kernel_rfl) (by kernel_rfl) ?_
    refine VD.q rfl (q_move rfl) (by decide) ?_
    refine VD.q rfl (q_move rfl) (by decide) ?_
    obtain ⟨z65_17, nz65_17, hz65_17, hS⟩ := atm_s hS
    refine VD.deepO z65_17.m hz65_17 (fun _ q => q) ?_
    refine VD.q rfl (q_ixo (s := m5_4) Tryz.underlying30 gsz39 rfl rfl nz65_17 (lt_of_get nz65_17 hz65_17)) (by decide) ?_
    refine VD.q rfl (q_elso (s := m5_4) gagg39 rfl rfl hz65_17) (by decide) ?_
    refine VD.q rfl (q_fes gagg39 rfl rfl) (by decide) ?_
    obtain ⟨y68_18, ey68_18, hS⟩ := bd_s hS
    refine VD.q rfl (q_call (rectoref7_Same_ct (⟨z65_17.kind, z65_17.data, z65_17.items, z65_17.tree, z65_17.parents, z65_17.time, z65_17.text⟩ : Rectoref7Object) (⟨q47_11_0.kind, q47_11_0.data, q47_11_0.items, q47_11_0.tree, q47_11_0.parents, q47_11_0.time, q47_11_0.text⟩ : Rectoref7Object) ey68_18) rfl (fun _ _ => rfl)) (by decide) ?_
    refine VD.to (fun _ _ h => h) ?_
    refine VC.keep (ρ' := [(3, ptr q20_2_0 0), (5, m5_4.val), (6, i64 id6_5), (9, ptr b9_12 0), (10, i64 k10_16), (68, .bool y68_18)]) [3, 5, 6, 9, 10, 68] rfl ?_
    refine VC.cond rfl (fun h68 => ?_) (fun h68 => ?_)
    ·
     replace hS := it_t h68 hS
     refine Zq (Zr ?_)
     refine Za ?_
     refine Zl ?_
     replace hS := up2 hS hK2
     replace hS := up2 hS hK1
     cases hS
     exact Ze
    replace hS := it_b h68 hS
    refine Zk ?_
    refine Zr ?_
    refine Zm ?_
    obtain ⟨b62, hS⟩ := gd_s hS
    refine VL.q (q_add rfl rfl b62) (by decide) ?_
    refine Za ?_
    refine VL.rnd (k10_16 + 1) [3, 5, 6, 9, 10] (fun _ _ h => h) (go2 hS hK2) rfl
   replace hS := it_f h60 hS
   replace hS := up2 hS hK2
   refine Zx ?_
   refine Zr ?_
   refine Zm ?_
   refine VL.q (q_fes gagg39 rfl rfl) (by decide) ?_
   refine VL.lit (α := Rectoref7Object) (xs := [.tmp 70]) (vs := [.agg #[i64 q47_11_0.kind, str q47_11_0.data, q47_11_0.items.val, i64 q47_11_0.tree, q47_11_0.parents.val, i64 q47_11_0.time, str q47_11_0.text]]) [⟨q47_11_0.kind, q47_11_0.data, q47_11_0.items, q47_11_0.tree, q47_11_0.parents, q47_11_0.time, q47_11_0.text⟩] Tryz.underlying30 glit39 (by decide) rfl rfl rfl rfl (by decide) (fun h m => List.forall_mem_cons.2 ⟨InM.out (X := (q47_11_0.items.ok.and q47_11_0.parents.ok)) h m, fun _ h => by cases h⟩) (by decide) (fun s71_19 hs71_19 => ?_) (by decide)
   replace hS := lt_to (congrArg (List.map Rectoref7Object.pl) hs71_19) hS
   obtain ⟨b72, hS⟩ := gd_s hS
   refine VL.app (s := m5_4) (r := s71_19) Tryz.underlying30 gapp39 (by decide) rfl Fo.out (ap1 (apm b72)) (ap2 (apm b72) (by decide)) (by decide) (fun s72_21 hs72_21 => ?_)
   replace hS := lt_to ((congrArg (List.map Rectoref7Object.pl) hs72_21).trans List.map_append) hS
   refine VL.maApp hs72_21 ?_
   refine Za ?_
   refine VL.mt s72_21 [3, 5, 6] (fun _ _ h => h) hS rfl
  clear hS
  rintro m5_7 hS
  show VC _ _ _ _ _ [(3, ptr q20_2_0 0), (5, m5_7.val), (6, i64 id6_5)] (Mo.and (MAl m5_7.l) _) (Ow.star (Blk q20_2_0 [q20_2_1.l.val, q20_2_1.by_.val] 139) (Ow.star (Mv.own q20_2_1.by_ Tryz.prog 9 3 kStr kInt) (Ow.star (Sv.own q20_2_1.l 34) (Ow.star (Sv.own m5_7 39) (Ow.emp)))))
  refine Zr ?_
  refine Zm ?_
  obtain ⟨b39, hS⟩ := gd_s hS
  refine VL.q (q_add rfl rfl b39) (by decide) ?_
  refine Za ?_
  refine VL.rnd (m5_7, (id6_5 + 1)) [3, 5, 6] (fun _ _ h => h) (go2 hS hK1) rfl
 replace hS := it_f h37 hS
 replace hS := up2 hS hK1
 refine Zx ?_
 refine Zq (Zr ?_)
 refine Zm ?_
 obtain ⟨y75_23, ey75_23, hS⟩ := bd_s hS
 refine VL.callO (store_Store_Bytes_ct q20_2_0 q20_2_1 ey75_23) rfl (by decide) ?_
 rintro q75_23_0 rfl
 try dsimp only
 obtain ⟨y76_24, ey76_24, hS⟩ := bd_s hS
 refine VL.callO (store_Load_ct q75_23_0 ey76_24) rfl (by decide) ?_
 rintro (q76_24_0 | ⟨q76_24_0, q76_24_1⟩) rfl
 ·
  try dsimp only at hS
  try dsimp only
  refine Zm ?_
  refine VL.q (q_extract rfl rfl) (by decide) ?_
  refine VL.q (q_extract rfl rfl) (by decide) ?_
  refine Za ?_
  refine Za ?_
  refine Zl ?_
  refine VC.keep (ρ' := [(5, m5_4.val), (11, .pointer none), (12, q76_24_0.val)]) [5, 11, 12] rfl ?_
  refine Zq (Zr ?_)
  refine Zm ?_
  refine VL.q (q_ereq Tryz.underlying26 rfl) (by decide) ?_
  refine Zm ?_
  refine VL.split_dec 81 rfl (fun h81 => ?_) (fun h81 => ?_)
  ·
   replace hS := it_t h81 hS
   refine Zg ?_
   refine Zg ?_
   cases hS
  replace hS := it_f h81 hS
  refine VL.runs 5 [(2, some false)] (by kernel_rfl) ?_
  refine Zl ?_
  cases hS
  exact Ze
 try dsimp only at hS
 try dsimp only
 refine Zm ?_
 refine VL.q (q_extract rfl rfl) (by decide) ?_
 refine VL.q (q_extract rfl rfl) (by decide) ?_
 refine Za ?_
 refine Za ?_
 refine Zl ?_
 refine VC.keep (ρ' := [(5, m5_4.val), (11, ptr q76_24_0 0), (12, .nilIface)]) [5, 11, 12] rfl ?_
 refine Zq (Zr ?_)
 refine Zm ?_
 refine VL.q (q_nileq Tryz.underlying26 rfl) (by decide) ?_
 refine Zm ?_
 refine Zg ?_
 refine Zg ?_
 refine VL.guard rfl rfl ?_
 refine VL.shut m5_4 39 (fun h m => InM.out (X := MAl m5_4.l) h m) ?_
 obtain ⟨y84_25, ey84_25, hS⟩ := bd_s hS
 refine VL.callO (rectolaw8_same_ct q76_24_0 q76_24_1 m5_4 ey84_25) rfl (by decide) ?_
 rintro _ _
 try dsimp only
 refine Zt ?_
 refine Za ?_
 refine Zl ?_
 refine VC.keep (ρ' := [(2, .bool y84_25)]) [2] rfl ?_
 cases hS
 exact Ze
end Go.Proofs.YthbccdlpalenlaaGreatDoor
end

section
namespace Go.S
theorem at_get {α : Type} {l : List α} {i : Int} (h0 : 0 ≤ i) (h : i < l.length) : ∃ z, l[i.toNat]? = some z := ⟨_, List.getElem?_eq_getElem (by omega)⟩
theorem eqloop {α : Type} [DecidableEq α] (P : α → α → Prop) [∀ z w, Decidable (P z w)] (hP : ∀ z w, P z w ↔ z = w) (l r : List α) (hl : (l.length : Int) = r.length) (hb : (l.length : Int) ≤ 1000000000) (B : Int → Option (Int ⊕ Bool))
    (hB : ∀ i, B i = if i < (l.length : Int) then (at_ l i).bind (fun z => (at_ r i).bind (fun w => if P z w then gd (I64 (i + 1)) (go (i + 1)) else up (some false))) else up (some true)) : iter B 0 = some (decide (l = r)) := by
  apply Ok.eq
  refine ok_iter (I := fun i => 0 ≤ i ∧ i ≤ l.length ∧ l.take i.toNat = r.take i.toNat) (μ := fun i => (l.length - i).toNat) ?_ ⟨by omega, by omega, rfl⟩
  rintro i ⟨h0, h1, h2⟩
  rw [hB]
  simp only [ok_if, ok_up, ok_bd, ok_gd, ok_go, ok_some, ok_at]
  refine ⟨fun h => ?_, fun h => ?_⟩
  · obtain ⟨z, hz⟩ := at_get h0 h
    obtain ⟨w, hw⟩ := at_get (l := r) h0 (by omega)
    refine ⟨h0, z, hz, h0, w, hw, fun hp => ?_, fun hp => ?_⟩
    · have e := (hP z w).1 hp
      refine ⟨⟨by omega, by omega⟩, ⟨by omega, by omega, ?_⟩, by omega⟩
      rw [show (i + 1).toNat = i.toNat + 1 by omega, List.take_add_one, List.take_add_one, h2, hz, hw, e]
    · have e : z ≠ w := fun e => hp ((hP z w).2 e)
      refine (decide_eq_false fun q => e ?_).symm
      subst q
      rw [hz] at hw
      exact Option.some.inj hw
  · have e : i.toNat = l.length := by omega
    rw [e, List.take_length] at h2
    rw [show l.length = r.length by omega, List.take_length] at h2
    exact (decide_eq_true h2).symm
end Go.S
end

section
namespace Go.S
open Go
def Few7 (o : ObjectObjectP) : Prop := (o.data.length : Int) ≤ 5000 ∧ (o.items.length : Int) ≤ 80 ∧ (o.parents.length : Int) ≤ 80 ∧ (o.text.length : Int) ≤ 400
def same7 (a b : ObjectObjectP) : Bool := decide (a.kind = b.kind) && (if a.kind = 1 then decide (a.data = b.data) else if a.kind = 2 then decide (a.items = b.items) else if a.kind = 3 then decide (a.tree = b.tree) && decide (a.parents = b.parents) && decide (a.time = b.time) && decide (a.text = b.text) else true)
def it7 (x : ObjectItem) : Rectoref7Item := ⟨x.path, x.mode, x.blob⟩
theorem it7_inj {x y : ObjectItem} (h : it7 x = it7 y) : x = y := by
  cases x; cases y; simp [it7] at h; simp [h]
theorem map_inj7 {α β : Type} {f : α → β} (hf : ∀ x y, f x = f y → x = y) : ∀ {l r : List α}, l.map f = r.map f → l = r
  | [], [], _ => rfl
  | [], _ :: _, h => by simp at h
  | _ :: _, [], h => by simp at h
  | x :: l, y :: r, h => by
    simp only [List.map_cons, List.cons.injEq] at h
    rw [hf x y h.1, map_inj7 hf h.2]
def of7 (o : ObjectObjectP) : Rectoref7ObjectP := ⟨o.kind, o.data, o.items.map it7, o.tree, o.parents, o.time, o.text⟩
theorem of_ok {o : ObjectObjectP} (ho : Few7 o) : Sh.rectolaw7_Of o = some (of7 o) := by
  obtain ⟨_, h2, _, _⟩ := ho
  apply Ok.eq
  unfold Sh.rectolaw7_Of
  refine ok_iter (I := fun x => 0 ≤ x.1 ∧ x.1 ≤ o.items.length ∧ x.2 = (o.items.take x.1.toNat).map it7) (μ := fun x => (o.items.length - x.1).toNat) ?_ ⟨by simp, by simp, by simp⟩
  rintro ⟨i, l⟩ ⟨h0, h1, hl⟩
  dsimp only at h0 h1 hl ⊢
  simp only [ok_if, ok_up, ok_bd, ok_gd, ok_lt, ok_go, ok_some, ok_at]
  refine ⟨fun h => ?_, fun h => ?_⟩
  · obtain ⟨z, hz⟩ := at_get h0 h
    have hlen : l.length = i.toNat := by rw [hl, List.length_map, List.length_take]; omega
    refine ⟨h0, z, hz, h0, z, hz, h0, z, hz, by simp [hlen]; omega, ⟨by omega, by omega⟩, ⟨by omega, by omega, ?_⟩, by omega⟩
    rw [show (i + 1).toNat = i.toNat + 1 by omega, List.take_add_one, hz, hl]
    simp [it7]
  · rw [hl, show i.toNat = o.items.length by omega, List.take_length]
    rfl
theorem refsame_ok {a b : ObjectObjectP} (ha : Few7 a) (hk : a.kind = b.kind → 1 ≤ a.kind ∧ a.kind ≤ 3) : Sh.rectoref7_Same (of7 a) (of7 b) = some (same7 a b) := by
  obtain ⟨h1, h2, h3, h4⟩ := ha
  unfold Sh.rectoref7_Same same7 of7
  dsimp only
  by_cases hk : a.kind = b.kind
  · simp only [hk, if_true, decide_true, Bool.true_and]
    split
    · rfl
    · split
      · by_cases hl : ((a.items.map it7).length : Int) = ((b.items.map it7).length : Int)
        · rw [if_pos hl]
          rw [eqloop (fun z w : Rectoref7Item => z.path = w.path ∧ z.mode = w.mode ∧ z.blob = w.blob) (fun z w => by cases z; cases w; simp) _ _ hl (by rw [List.length_map]; omega) _ (fun i => rfl)]
          congr 1
          exact decide_eq_decide.2 ⟨fun h => map_inj7 (fun _ _ => it7_inj) h, fun h => by rw [h]⟩
        · rw [if_neg hl, decide_eq_false fun e => hl (by rw [e])]
      · split
        · simp only [jn]
          by_cases e1 : a.tree = b.tree
          · by_cases e2 : (a.parents.length : Int) = b.parents.length
            · by_cases e3 : a.time = b.time
              · by_cases e4 : a.text = b.text
                · simp only [e1, e2, e3, e4, if_true, decide_true, Bool.not_true, Bool.false_eq_true, if_false, Bool.and_true, Bool.true_and]
                  rw [← e2]
                  exact eqloop (fun z w : Int => z = w) (fun z w => Iff.rfl) _ _ e2 (by omega) _ (fun i => rfl)
                · simp [e1, e2, e3, e4]
              · simp [e1, e2, e3]
            · have : ¬ a.parents = b.parents := fun e => e2 (by rw [e])
              simp [e1, e2, this]
          · simp [e1]
        · rfl
  · simp [hk]
end Go.S
end

section
namespace Go.S
theorem get_lt {α : Type} {l : List α} {i : Nat} {x : α} (h : l[i]? = some x) : i < l.length := (List.getElem?_eq_some_iff.1 h).1
theorem at_last {α : Type} (l : List α) (z : α) : (l ++ [z])[(((l ++ [z]).length : Int) - 1).toNat]? = some z := by
  rw [show ((((l ++ [z]).length : Int) - 1).toNat) = l.length by simp]
  simp
theorem take_snoc {α : Type} {l : List α} {i : Int} {z : α} (h0 : 0 ≤ i) (h : l[i.toNat]? = some z) : l.take (i + 1).toNat = l.take i.toNat ++ [z] := by
  rw [show (i + 1).toNat = i.toNat + 1 by omega, List.take_add_one, h]; rfl
theorem ok_jnP {S R : Type} {K : S → Option R} {F : (S → Option R) → Option R} {Q : R → Prop} (P : S → Prop) (hK : ∀ s, P s → Ok (K s) Q) (hF : ∀ K' : S → Option R, (∀ s, P s → Ok (K' s) Q) → Ok (F K') Q) : Ok (jn K F) Q := hF K hK
theorem byte_eq {z : UInt8} {n : Nat} (hn : n < 256) : ((z.toNat : Int) = n) ↔ z = UInt8.ofNat n := by
  constructor
  · intro h
    apply UInt8.toNat_inj.1
    simp [Nat.mod_eq_of_lt hn]; omega
  · intro h
    subst h
    simp [Nat.mod_eq_of_lt hn]
theorem mid1 {α : Type} {s : List α} {i : Int} {z : α} (h0 : 0 ≤ i) (h : s[i.toNat]? = some z) : (s.drop i.toNat).take ((i + 1).toNat - i.toNat) = [z] := by
  obtain ⟨h1, h2⟩ := List.getElem?_eq_some_iff.1 h
  rw [show (i + 1).toNat - i.toNat = 1 by omega, List.drop_eq_getElem_cons h1, h2]
  rfl
end Go.S
end
