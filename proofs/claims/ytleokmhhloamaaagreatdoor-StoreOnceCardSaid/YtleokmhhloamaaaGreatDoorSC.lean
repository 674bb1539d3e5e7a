/- Part of the proofs of: However often, and in whichever order, the same things are put, there is one of each, for any bytes. -/
import Derived.Test.YtleokmhhloamaaaGreatDoorSB
set_option linter.unusedVariables false
set_option linter.unusedSimpArgs false
set_option linter.unusedSectionVars false
section
set_option linter.unusedVariables false
namespace Go.Proofs.YtleokmhhloamaaaGreatDoor
set_option maxHeartbeats 40000000
set_option maxRecDepth 100000
open Go.RowKit Go.V
open Go.S hiding Str
theorem store_apart_ct (o_0 : ObjectObject) {r : ObjectObjectP} (hS : Sh.store_apart o_0.pl = some r) :
 Ct Tryz.prog 58 [.agg #[i64 o_0.kind, o_0.data.val, o_0.items.val, i64 o_0.tree, o_0.parents.val, i64 o_0.time, str o_0.text]] (o_0.data.ok.and (o_0.items.ok.and o_0.parents.ok)) (Ow.emp) (X := ObjectObject) (fun x => .agg (Dat.enc x).toArray) (fun x => r = x.pl) (fun x => x.m) (fun x => Ow.emp) := by
 refine Ct.of Tryz.func58 rfl (by kernel_rfl) Tryz.ntmps58 (by simp) fun c => ?_
 unfold Sh.store_apart at hS
 refine Zq (Zr ?_)
 refine VL.box (cs := [i64 o_0.kind, o_0.data.val, o_0.items.val, i64 o_0.tree, o_0.parents.val, i64 o_0.time, str o_0.text]) rfl rfl (by decide) fun b1_1 => ?_
 refine VL.alloc (cs := [i64 0, .slice none 0 0, .slice none 0 0, i64 0, .slice none 0 0, i64 0, str []]) (by kernel_rfl) (by decide) fun b2_2 => ?_
 refine Zl ?_
 refine Zq (Zr ?_)
 refine VL.q (q_field gfa34_0 rfl) (by decide) ?_
 refine VL.q (q_fe gone3 rfl rfl) (by decide) ?_
 refine VL.q (q_build (vs := [(0, i64 o_0.kind)]) (cs := #[i64 o_0.kind, .slice none 0 0, .slice none 0 0, i64 0, .slice none 0 0, i64 0, str []]) rfl (by kernel_rfl)) (by decide) ?_
 refine VL.alloc (cs := [i64 0, .slice none 0 0, .slice none 0 0, i64 0, .slice none 0 0, i64 0, str []]) (by kernel_rfl) (by decide) fun b3_3 => ?_
 refine VL.store (vc := [i64 o_0.kind, .slice none 0 0, .slice none 0 0, i64 0, .slice none 0 0, i64 0, str []]) (cs' := [i64 o_0.kind, .slice none 0 0, .slice none 0 0, i64 0, .slice none 0 0, i64 0, str []]) rfl rfl rfl gsz34 rfl rfl (Nat.le_of_ble_eq_true rfl) rfl ?_
 refine Zl ?_
 refine Zq (Zq (Zr ?_))
 refine VL.q (q_field gfa34_0 rfl) (by decide) ?_
 refine VL.q (q_fe gone3 rfl rfl) (by decide) ?_
 refine Zl ?_
 refine Zb (Zq (Zr ?_))
 refine VL.q (q_eql rfl rfl) (by decide) ?_
 refine Za ?_
 refine Zl ?_
 refine VC.cond_dec rfl (fun h9 => ?_) (fun h9 => ?_)
 ·
  replace hS := it_t h9 hS
  refine Zr ?_
  refine VL.q (q_field gfa34_1 rfl) (by decide) ?_
  refine VL.q (q_fe gone27 rfl rfl) (by decide) ?_
  obtain ⟨y13_4, ey13_4, hS⟩ := bd_s hS
  refine VL.callO (slices_Clone_byte_byte_ct o_0.data ey13_4) rfl (by decide) ?_
  rintro q13_4_0 rfl
  try dsimp only
  refine VL.shut q13_4_0 5 (fun _ _ _ _ => trivial) ?_
  obtain ⟨y14_5, ey14_5, hS⟩ := bd_s hS
  refine VL.callF (slices_Clip_byte_byte_ct q13_4_0 ey14_5) rfl (by decide) ?_
  rintro q14_5_0 rfl
  try dsimp only
  refine VL.q (q_field gfa34_1 rfl) (by decide) ?_
  refine VL.store (vc := [q14_5_0.val]) (cs' := [i64 o_0.kind, q14_5_0.val, .slice none 0 0, i64 0, .slice none 0 0, i64 0, str []]) rfl rfl rfl gsz27 rfl rfl (Nat.le_of_ble_eq_true rfl) rfl ?_
  refine Zl ?_
  refine VC.keep (ρ' := [(2, ptr b2_2 0), (3, ptr b3_3 0)]) [2, 3] rfl ?_
  refine Zq (Zr ?_)
  refine VL.q (q_fes gagg34 rfl rfl) (by decide) ?_
  refine VL.store (vc := [i64 o_0.kind, q14_5_0.val, .slice none 0 0, i64 0, .slice none 0 0, i64 0, str []]) (cs' := [i64 o_0.kind, q14_5_0.val, .slice none 0 0, i64 0, .slice none 0 0, i64 0, str []]) rfl rfl rfl gsz34 rfl rfl (Nat.le_of_ble_eq_true rfl) rfl ?_
  refine Zl ?_
  cases hS
  exact VC.ret (finG (vs := [.agg #[i64 o_0.kind, q14_5_0.val, .slice none 0 0, i64 0, .slice none 0 0, i64 0, str []]]) (.inr rfl) rfl (RVs.cell gagg34 rfl rfl Rd.blk (RVs.nil)) ⟨o_0.kind, q14_5_0, ⟨none, 0, []⟩, 0, ⟨none, 0, []⟩, 0, []⟩ rfl rfl (by (try dsimp only); exact InM.out) (fun _ _ => trivial))
 replace hS := it_f h9 hS
 refine Zq (Zr ?_)
 refine VL.q (q_eql rfl rfl) (by decide) ?_
 refine Za ?_
 refine Zl ?_
 refine VC.keep (ρ' := [(1, ptr b1_1 0), (2, ptr b2_2 0), (3, ptr b3_3 0), (8, i64 o_0.kind), (16, .bool (decide (o_0.kind = 2)))]) [1, 2, 3, 8, 16] rfl ?_
 refine VC.cond_dec rfl (fun h16 => ?_) (fun h16 => ?_)
 ·
  replace hS := it_t h16 hS
  refine Zr ?_
  refine VL.q (q_field gfa34_2 rfl) (by decide) ?_
  refine VL.q (q_fe gone32 rfl rfl) (by decide) ?_
  obtain ⟨y20_6, ey20_6, hS⟩ := bd_s hS
  refine VL.callO (slices_Clone_object_Item_object_Item_ct o_0.items ey20_6) rfl (by decide) ?_
  rintro q20_6_0 rfl
  try dsimp only
  refine VL.shut q20_6_0 96 (fun _ _ _ _ => trivial) ?_
  obtain ⟨y21_7, ey21_7, hS⟩ := bd_s hS
  refine VL.callF (slices_Clip_object_Item_object_Item_ct q20_6_0 ey21_7) rfl (by decide) ?_
  rintro q21_7_0 rfl
  try dsimp only
  refine VL.q (q_field gfa34_2 rfl) (by decide) ?_
  refine VL.store (vc := [q21_7_0.val]) (cs' := [i64 o_0.kind, .slice none 0 0, q21_7_0.val, i64 0, .slice none 0 0, i64 0, str []]) rfl rfl rfl gsz32 rfl rfl (Nat.le_of_ble_eq_true rfl) rfl ?_
  refine Zl ?_
  refine Zq (Zr ?_)
  refine VL.q (q_fes gagg34 rfl rfl) (by decide) ?_
  refine VL.store (vc := [i64 o_0.kind, .slice none 0 0, q21_7_0.val, i64 0, .slice none 0 0, i64 0, str []]) (cs' := [i64 o_0.kind, .slice none 0 0, q21_7_0.val, i64 0, .slice none 0 0, i64 0, str []]) rfl rfl rfl gsz34 rfl rfl (Nat.le_of_ble_eq_true rfl) rfl ?_
  refine Zl ?_
  refine VC.keep (ρ' := [(2, ptr b2_2 0)]) [2] rfl ?_
  cases hS
  exact VC.ret (finG (vs := [.agg #[i64 o_0.kind, .slice none 0 0, q21_7_0.val, i64 0, .slice none 0 0, i64 0, str []]]) (.inr rfl) rfl (RVs.cell gagg34 rfl rfl Rd.blk (RVs.nil)) ⟨o_0.kind, ⟨none, 0, []⟩, q21_7_0, 0, ⟨none, 0, []⟩, 0, []⟩ rfl rfl (by (try dsimp only); exact InM.out) (fun _ _ => trivial))
 replace hS := it_f h16 hS
 refine Zq (Zr ?_)
 refine VL.q (q_eql rfl rfl) (by decide) ?_
 refine Za ?_
 refine Zl ?_
 refine VC.cond_dec rfl (fun h23 => ?_) (fun h23 => ?_)
 ·
  replace hS := it_t h23 hS
  refine VC.draw [(0, true), (1, true), (2, true), (3, true), (6, true), (7, true), (8, true), (9, true), (10, true), (4, false), (5, false), (11, false), (12, true), (13, false), (14, true), (15, false), (16, true), (17, false)] mixed (by kernel_rfl) (by kernel_rfl) (by kernel_rfl) ?_
  refine VD.q rfl (q_field gfa34_3 rfl) (by decide) ?_
  refine VD.q rfl (q_fe gone3 rfl rfl) (by decide) ?_
  refine VD.q rfl (q_field gfa34_4 rfl) (by decide) ?_
  refine VD.q rfl (q_fe gone26 rfl rfl) (by decide) ?_
  refine VD.q rfl (q_field gfa34_5 rfl) (by decide) ?_
  refine VD.q rfl (q_fe gone3 rfl rfl) (by decide) ?_
  refine VD.q rfl (q_field gfa34_6 rfl) (by decide) ?_
  refine VD.q rfl (q_fe gone9 rfl rfl) (by decide) ?_
  refine VD.q rfl (q_field gfa34_3 rfl) (by decide) ?_
  refine VD.one rfl ?_
  obtain ⟨y29_8, ey29_8, hS⟩ := bd_s hS
  refine VL.callO (slices_Clone_int_int_ct o_0.parents ey29_8) rfl (by decide) ?_
  rintro q29_8_0 rfl
  try dsimp only
  refine VL.back (D' := [(10, ptr b3_3 3), (9, str o_0.text), (8, ptr b1_1 6), (7, i64 o_0.time), (6, ptr b1_1 5), (1, i64 o_0.tree), (0, ptr b1_1 3)]) (by kernel_rfl) (Pend.cons rfl (q_field gfa34_3 rfl) (Pend.cons rfl (q_fe gone9 rfl rfl) (Pend.cons rfl (q_field gfa34_6 rfl) (Pend.cons rfl (q_fe gone3 rfl rfl) (Pend.cons rfl (q_field gfa34_5 rfl) (Pend.cons rfl (q_fe gone3 rfl rfl) (Pend.cons rfl (q_field gfa34_3 rfl) (Pend.nil)))))))) ?_
  refine VD.one rfl ?_
  refine VL.shut q29_8_0 3 (fun _ _ _ _ => trivial) ?_
  obtain ⟨y30_9, ey30_9, hS⟩ := bd_s hS
  refine VL.callF (slices_Clip_int_int_ct q29_8_0 ey30_9) rfl (by decide) ?_
  rintro q30_9_0 rfl
  try dsimp only
  refine VL.back (D' := [(10, ptr b3_3 3), (9, str o_0.text), (8, ptr b1_1 6), (7, i64 o_0.time), (6, ptr b1_1 5), (1, i64 o_0.tree), (0, ptr b1_1 3)]) (by kernel_rfl) (Pend.cons rfl (q_field gfa34_3 rfl) (Pend.cons rfl (q_fe gone9 rfl rfl) (Pend.cons rfl (q_field gfa34_6 rfl) (Pend.cons rfl (q_fe gone3 rfl rfl) (Pend.cons rfl (q_field gfa34_5 rfl) (Pend.cons rfl (q_fe gone3 rfl rfl) (Pend.cons rfl (q_field gfa34_3 rfl) (Pend.nil)))))))) ?_
  refine VD.one rfl ?_
  refine VL.store (vc := [i64 o_0.tree]) (cs' := [i64 o_0.kind, .slice none 0 0, .slice none 0 0, i64 o_0.tree, .slice none 0 0, i64 0, str []]) rfl rfl rfl gsz3 rfl rfl (Nat.le_of_ble_eq_true rfl) rfl ?_
  refine VL.back (D' := [(9, str o_0.text), (8, ptr b1_1 6), (7, i64 o_0.time), (6, ptr b1_1 5)]) (by kernel_rfl) (Pend.cons rfl (q_fe gone9 rfl rfl) (Pend.cons rfl (q_field gfa34_6 rfl) (Pend.cons rfl (q_fe gone3 rfl rfl) (Pend.cons rfl (q_field gfa34_5 rfl) (Pend.nil))))) ?_
  refine VD.q rfl (q_field gfa34_4 rfl) (by decide) ?_
  refine VD.one rfl ?_
  refine VL.store (vc := [q30_9_0.val]) (cs' := [i64 o_0.kind, .slice none 0 0, .slice none 0 0, i64 o_0.tree, q30_9_0.val, i64 0, str []]) rfl rfl rfl gsz26 rfl rfl (Nat.le_of_ble_eq_true rfl) rfl ?_
  refine VL.back (D' := [(9, str o_0.text), (8, ptr b1_1 6), (7, i64 o_0.time), (6, ptr b1_1 5)]) (by kernel_rfl) (Pend.cons rfl (q_fe gone9 rfl rfl) (Pend.cons rfl (q_field gfa34_6 rfl) (Pend.cons rfl (q_fe gone3 rfl rfl) (Pend.cons rfl (q_field gfa34_5 rfl) (Pend.nil))))) ?_
  refine VD.q rfl (q_field gfa34_5 rfl) (by decide) ?_
  refine VD.one rfl ?_
  refine VL.store (vc := [i64 o_0.time]) (cs' := [i64 o_0.kind, .slice none 0 0, .slice none 0 0, i64 o_0.tree, q30_9_0.val, i64 o_0.time, str []]) rfl rfl rfl gsz3 rfl rfl (Nat.le_of_ble_eq_true rfl) rfl ?_
  refine VL.back (D' := [(9, str o_0.text), (8, ptr b1_1 6)]) (by kernel_rfl) (Pend.cons rfl (q_fe gone9 rfl rfl) (Pend.cons rfl (q_field gfa34_6 rfl) (Pend.nil))) ?_
  refine VD.q rfl (q_field gfa34_6 rfl) (by decide) ?_
  refine VD.one rfl ?_
  refine VL.store (vc := [str o_0.text]) (cs' := [i64 o_0.kind, .slice none 0 0, .slice none 0 0, i64 o_0.tree, q30_9_0.val, i64 o_0.time, str o_0.text]) rfl rfl rfl gsz9 rfl rfl (Nat.le_of_ble_eq_true rfl) rfl ?_
  refine VL.back (D' := []) (by kernel_rfl) (Pend.nil) ?_
  refine VD.to (fun _ _ h => h) ?_
  refine VC.keep (ρ' := [(2, ptr b2_2 0), (3, ptr b3_3 0)]) [2, 3] rfl ?_
  refine Zq (Zr ?_)
  refine VL.q (q_fes gagg34 rfl rfl) (by decide) ?_
  refine VL.store (vc := [i64 o_0.kind, .slice none 0 0, .slice none 0 0, i64 o_0.tree, q30_9_0.val, i64 o_0.time, str o_0.text]) (cs' := [i64 o_0.kind, .slice none 0 0, .slice none 0 0, i64 o_0.tree, q30_9_0.val, i64 o_0.time, str o_0.text]) rfl rfl rfl gsz34 rfl rfl (Nat.le_of_ble_eq_true rfl) rfl ?_
  refine Zl ?_
  cases hS
  exact VC.ret (finG (vs := [.agg #[i64 o_0.kind, .slice none 0 0, .slice none 0 0, i64 o_0.tree, q30_9_0.val, i64 o_0.time, str o_0.text]]) (.inr rfl) rfl (RVs.cell gagg34 rfl rfl Rd.blk (RVs.nil)) ⟨o_0.kind, ⟨none, 0, []⟩, ⟨none, 0, []⟩, o_0.tree, q30_9_0, o_0.time, o_0.text⟩ rfl rfl (by (try dsimp only); exact InM.out) (fun _ _ => trivial))
 replace hS := it_f h23 hS
 refine Zk ?_
 refine Zq (Zr ?_)
 refine VL.q (q_fes gagg34 rfl rfl) (by decide) ?_
 refine VL.store (vc := [i64 o_0.kind, .slice none 0 0, .slice none 0 0, i64 0, .slice none 0 0, i64 0, str []]) (cs' := [i64 o_0.kind, .slice none 0 0, .slice none 0 0, i64 0, .slice none 0 0, i64 0, str []]) rfl rfl rfl gsz34 rfl rfl (Nat.le_of_ble_eq_true rfl) rfl ?_
 refine Zl ?_
 cases hS
 exact VC.ret (finG (vs := [.agg #[i64 o_0.kind, .slice none 0 0, .slice none 0 0, i64 0, .slice none 0 0, i64 0, str []]]) (.inr rfl) rfl (RVs.cell gagg34 rfl rfl Rd.blk (RVs.nil)) ⟨o_0.kind, ⟨none, 0, []⟩, ⟨none, 0, []⟩, 0, ⟨none, 0, []⟩, 0, []⟩ rfl rfl (by (try dsimp only); exact InM.out) (fun _ _ => trivial))
theorem store_Store_Put_ct (s_0_b : Nat) (s_0 : StoreStore) (o_1 : ObjectObject) {r : Int × Err × StoreStoreP} (hS : Sh.store_Store_Put s_0.pl o_1.pl = some r) :
 Ct Tryz.prog 10 [ptr s_0_b 0, .agg #[i64 o_1.kind, o_1.data.val, o_1.items.val, i64 o_1.tree, o_1.parents.val, i64 o_1.time, str o_1.text]] ((MAl s_0.l.l).and (o_1.data.ok.and (o_1.items.ok.and o_1.parents.ok))) (Ow.star (Sv.own s_0.l 34) (Ow.star (Mv.own s_0.by_ Tryz.prog 9 3 kStr kInt) (Blk s_0_b [s_0.l.val, s_0.by_.val] 109))) (X := Int × Er × StoreStore) (fun x => .tuple #[i64 x.1, x.2.1.val]) (fun x => r = (x.1, x.2.1.pl, x.2.2.pl)) (fun x => (x.2.1.ok.and (MAl x.2.2.l.l))) (fun x => Ow.star (Blk s_0_b [x.2.2.l.val, x.2.2.by_.val] 109) (Ow.star (Sv.own x.2.2.l 34) (Mv.own x.2.2.by_ Tryz.prog 9 3 kStr kInt))) := by
 refine Ct.of Tryz.func10 rfl (by kernel_rfl) Tryz.ntmps10 (by simp) fun c => ?_
 unfold Sh.store_Store_Put at hS
 refine Zq (Zr ?_)
 refine VL.box (cs := [i64 o_1.kind, o_1.data.val, o_1.items.val, i64 o_1.tree, o_1.parents.val, i64 o_1.time, str o_1.text]) rfl rfl (by decide) fun b3_1 => ?_
 refine Za ?_
 refine Za ?_
 refine Zl ?_
 refine Zq (Zr ?_)
 refine VL.q (q_fes gagg34 rfl rfl) (by decide) ?_
 obtain ⟨y16_2, ey16_2, hS⟩ := bd_s hS
 refine VL.callO (object_Encode_ct o_1 ey16_2) rfl (by decide) ?_
 rintro ⟨q16_2_0, q16_2_1⟩ rfl
 try dsimp only
 refine Zm ?_
 refine VL.q (q_extract rfl rfl) (by decide) ?_
 refine VL.q (q_extract rfl rfl) (by decide) ?_
 refine Za ?_
 refine Za ?_
 refine Zl ?_
 refine VC.keep (ρ' := [(0, ptr s_0_b 0), (3, ptr b3_1 0), (6, q16_2_0.val), (7, q16_2_1.val)]) [0, 3, 6, 7] rfl ?_
 refine Zq (Zq (Zr ?_))
 refine Zm ?_
 refine VL.q (q_erne Tryz.underlying29 rfl) (by decide) ?_
 refine Zl ?_
 refine VC.cond_ndec rfl (fun h20 => ?_) (fun h20 => ?_)
 ·
  replace hS := it_f h20 hS
  refine Zq (Zr ?_)
  refine Zm ?_
  refine Za ?_
  refine Za ?_
  refine Zl ?_
  cases hS
  exact VC.ret (fin2 (.inr rfl) rfl rfl rfl (0, q16_2_1, ⟨s_0.l, s_0.by_⟩) rfl rfl (by (try dsimp only); exact InM.out) (by (try dsimp only); exact EntO.out))
 replace hS := it_t h20 hS
 refine Zk ?_
 refine Zq (Zr ?_)
 refine VL.q (q_fes gagg34 rfl rfl) (by decide) ?_
 obtain ⟨y24_3, ey24_3, hS⟩ := bd_s hS
 refine VL.callO (store_refs_ct o_1 ey24_3) rfl (by decide) ?_
 rintro ⟨q24_3_0, q24_3_1⟩ rfl
 try dsimp only
 refine Zm ?_
 refine VL.q (q_extract rfl rfl) (by decide) ?_
 refine VL.q (q_extract rfl rfl) (by decide) ?_
 refine Za ?_
 refine Za ?_
 refine Zl ?_
 refine VC.keep (ρ' := [(0, ptr s_0_b 0), (3, ptr b3_1 0), (6, q16_2_0.val), (8, q24_3_0.val), (9, q24_3_1.val)]) [0, 3, 6, 8, 9] rfl ?_
 refine Zq (Zq (Zr ?_))
 refine Zm ?_
 refine VL.q (q_ln (s := q24_3_0) Tryz.underlying26 rfl) (by decide) ?_
 refine Zm ?_
 refine Zl ?_
 refine Zb ?_
 refine VC.iter (S := Int) (fun (x29_4 : Int) => x29_4) (fun (x29_4 : Int) => [(0, ptr s_0_b 0), (3, ptr b3_1 0), (6, q16_2_0.val), (9, q24_3_1.val), (27, q24_3_0.val), (28, i64 (q24_3_0.l.length : Int)), (29, i64 x29_4)]) (fun (x29_4 : Int) => Mo.tt) (fun (x29_4 : Int) => Ow.star (Blk b3_1 [i64 o_1.kind, o_1.data.val, o_1.items.val, i64 o_1.tree, o_1.parents.val, i64 o_1.time, str o_1.text] 34) (Ow.star (Blk s_0_b [s_0.l.val, s_0.by_.val] 109) (Ow.star (Sv.own q24_3_1 3) (Ow.star (Sv.own q24_3_0 3) (Ow.star (Sv.own q16_2_0 5) (Ow.star (Sv.own s_0.l 34) (Ow.star (Mv.own s_0.by_ Tryz.prog 9 3 kStr kInt) (Ow.emp)))))))) 0 [0, 3, 6, 9, 27, 28, 29] hS rfl ?_
 clear hS
 rintro x29_4 m1 y1 hS hK1
 show VC _ _ _ _ _ [(0, ptr s_0_b 0), (3, ptr b3_1 0), (6, q16_2_0.val), (9, q24_3_1.val), (27, q24_3_0.val), (28, i64 (q24_3_0.l.length : Int)), (29, i64 x29_4)] (Mo.and Mo.tt _) (Ow.star (Blk b3_1 [i64 o_1.kind, o_1.data.val, o_1.items.val, i64 o_1.tree, o_1.parents.val, i64 o_1.time, str o_1.text] 34) (Ow.star (Blk s_0_b [s_0.l.val, s_0.by_.val] 109) (Ow.star (Sv.own q24_3_1 3) (Ow.star (Sv.own q24_3_0 3) (Ow.star (Sv.own q16_2_0 5) (Ow.star (Sv.own s_0.l 34) (Ow.star (Mv.own s_0.by_ Tryz.prog 9 3 kStr kInt) (Ow.emp))))))))
 refine Zq (Zr ?_)
 refine VL.q (q_lss rfl rfl) (by decide) ?_
 refine Zl ?_
 refine Zq ?_
 refine VC.cond_dec rfl (fun h30 => ?_) (fun h30 => ?_)
 ·
  replace hS := it_t h30 hS
  refine Zk ?_
  refine Zq (Zb (Zq (Zr ?_)))
  refine Zm ?_
  obtain ⟨z32_5, nz32_5, hz32_5, hS⟩ := at_s hS
  refine VL.q (q_ixo (s := q24_3_0) Tryz.underlying26 gsz3 rfl rfl nz32_5 (lt_of_get nz32_5 hz32_5)) (by decide) ?_
  refine VL.q (q_elo (s := q24_3_0) 3 gone3 rfl hz32_5 rfl) (by decide) ?_
  refine Za ?_
  refine Za ?_
  refine Zl ?_
  refine Zq ?_
  refine VC.draw [(0, true), (1, true), (3, true), (4, true), (5, true), (6, true), (2, false), (7, true)] mixed (by kernel_rfl) (by kernel_rfl) (by kernel_rfl) ?_
  refine VD.q rfl (q_move rfl) (by decide) ?_
  refine VD.q rfl (q_move rfl) (by decide) ?_
  refine VD.q rfl (q_move rfl) (by decide) ?_
  refine VD.q rfl (q_move rfl) (by decide) ?_
  obtain ⟨z39_6, nz39_6, hz39_6, hS⟩ := at_s hS
  refine VD.q rfl (q_ixo (s := q24_3_1) Tryz.underlying26 gsz3 rfl rfl nz39_6 (lt_of_get nz39_6 hz39_6)) (by decide) ?_
  refine VD.q rfl (q_elo (s := q24_3_1) 3 gone3 rfl hz39_6 rfl) (by decide) ?_
  refine VD.one rfl ?_
  obtain ⟨y36_7, ey36_7, hS⟩ := bd_s hS
  refine VL.callO (store_Store_kind_ct s_0_b s_0 z32_5 ey36_7) rfl (by decide) ?_
  rintro _ _
  try dsimp only
  refine VL.back (D' := [(6, i64 z39_6), (5, ptr q24_3_1.b (q24_3_1.o + (x29_4).toNat * Dat.sz Int + 0))]) (by kernel_rfl) (Pend.cons rfl (q_elo (s := q24_3_1) 3 gone3 rfl hz39_6 rfl) (Pend.cons rfl (q_ixo (s := q24_3_1) Tryz.underlying26 gsz3 rfl rfl nz39_6 (lt_of_get nz39_6 hz39_6)) (Pend.nil))) ?_
  refine VD.q rfl (q_neq rfl rfl) (by decide) ?_
  refine VD.to (fun _ _ h => h) ?_
  refine VC.keep (ρ' := [(0, ptr s_0_b 0), (3, ptr b3_1 0), (6, q16_2_0.val), (9, q24_3_1.val), (27, q24_3_0.val), (28, i64 (q24_3_0.l.length : Int)), (29, i64 x29_4), (11, i64 z32_5), (41, .bool (!decide (y36_7 = z39_6)))]) [0, 3, 6, 9, 27, 28, 29, 11, 41] rfl ?_
  refine VC.cond_ndec rfl (fun h41 => ?_) (fun h41 => ?_)
  ·
   replace hS := it_f h41 hS
   refine Zq (Zr ?_)
   refine Zm ?_
   refine VL.q (q_mkif Tryz.underlying115 (fun _ h => by cases h) rfl) (by decide) ?_
   refine VL.q (q_build (vs := [(0, str [114, 101, 102]), (1, i64 z32_5), (2, (Er.no 5).val)]) (cs := #[str [114, 101, 102], i64 z32_5, (Er.no 5).val]) rfl (by kernel_rfl)) (by decide) ?_
   refine VL.box (cs := [str [114, 101, 102], i64 z32_5, (Er.no 5).val]) rfl rfl (by decide) fun b45_8 => ?_
   refine VL.shutB b45_8 ?_
   refine VL.q (q_mkif Tryz.underlying114 (fun _ h => by cases h) rfl) (by decide) ?_
   refine Za ?_
   refine Za ?_
   refine Zl ?_
   refine VC.keep (ρ' := [(4, i64 0), (5, (Er.fault b45_8 [114, 101, 102] z32_5 (Er.no 5)).val)]) [4, 5] rfl ?_
   replace hS := up2 hS hK1
   cases hS
   exact VC.ret (fin2 (.inr rfl) rfl rfl rfl (0, (Er.fault b45_8 [114, 101, 102] z32_5 (Er.no 5)), ⟨s_0.l, s_0.by_⟩) rfl rfl (by (try dsimp only); exact InM.out) (by (try dsimp only); exact EntO.out))
  replace hS := it_t h41 hS
  refine Zk ?_
  refine Zr ?_
  obtain ⟨b47, hS⟩ := gd_s hS
  refine VL.q (q_add rfl rfl b47) (by decide) ?_
  refine Zm ?_
  refine VL.rnd (x29_4 + 1) [0, 3, 6, 9, 27, 28, 29] (fun _ _ h => h) (go2 hS hK1) rfl
 replace hS := it_f h30 hS
 replace hS := up2 hS hK1
 refine Zx ?_
 refine Zq (Zq ?_)
 refine VC.draw ((List.range 12).map fun k => (k, true)) mixed (by kernel_rfl) (by kernel_rfl) (by kernel_rfl) ?_
 refine VD.q rfl (q_move rfl) (by decide) ?_
 refine VD.q rfl (q_nilCheck rfl) (by decide) ?_
 refine VD.q rfl (q_field gfa109_1 rfl) (by decide) ?_
 refine VD.q rfl (q_fe gone106 rfl rfl) (by decide) ?_
 refine VD.q rfl (q_move rfl) (by decide) ?_
 refine VD.q rfl (q_b2s (s := q16_2_0) Tryz.underlying27 Tryz.underlying5 Tryz.underlying9 rfl) (by decide) ?_
 obtain ⟨b55, hS⟩ := gd_s hS
 refine VD.q rfl (q_lookMv (m := s_0.by_) (a0 := q16_2_0.l) (Maps.string_keyed Tryz.underlying9) Tryz.underlying106 Tryz.underlying3 gzm3 rfl rfl (keyS Tryz.underlying9 b55)) (by decide) ?_
 refine VD.q rfl (q_move rfl) (by decide) ?_
 refine VD.q rfl (q_extract rfl rfl) (by decide) ?_
 refine VD.q rfl (q_extract rfl rfl) (by decide) ?_
 refine VD.q rfl (q_assign rfl) (by decide) ?_
 refine VD.q rfl (q_assign rfl) (by decide) ?_
 refine VD.to (fun _ _ h => h) ?_
 refine VC.keep (ρ' := [(0, ptr s_0_b 0), (3, ptr b3_1 0), (6, q16_2_0.val), (12, i64 ((mget s_0.by_.l q16_2_0.l).getD 0)), (13, .bool ((mget s_0.by_.l q16_2_0.l).isSome))]) [0, 3, 6, 12, 13] rfl ?_
 refine Zq (Zr ?_)
 refine Zm ?_
 refine Zl ?_
 refine VC.cond rfl (fun h58 => ?_) (fun h58 => ?_)
 ·
  replace hS := it_t h58 hS
  refine Zq (Zr ?_)
  refine Zm ?_
  refine Za ?_
  refine Za ?_
  refine Zl ?_
  cases hS
  exact VC.ret (fin2 (.inr rfl) rfl rfl rfl (((mget s_0.by_.l q16_2_0.l).getD 0), .nil, ⟨s_0.l, s_0.by_⟩) rfl rfl (by (try dsimp only); exact InM.out) (by (try dsimp only); exact EntO.out))
 replace hS := it_b h58 hS
 refine Zk ?_
 refine Zq (Zq (Zr ?_))
 refine Zm ?_
 refine VL.q (q_nilCheck rfl) (by decide) ?_
 refine VL.q (q_field gfa109_0 rfl) (by decide) ?_
 refine VL.q (q_fe gone107 rfl rfl) (by decide) ?_
 refine VL.q (q_lnm ObjectObject.pl (s := s_0.l) Tryz.underlying107 rfl) (by decide) ?_
 refine VL.q (q_geq rfl rfl) (by decide) ?_
 refine Zl ?_
 refine VC.keep (ρ' := [(0, ptr s_0_b 0), (3, ptr b3_1 0), (6, q16_2_0.val), (65, .bool (decide (4096 ≤ ((s_0.l.l.map ObjectObject.pl).length : Int))))]) [0, 3, 6, 65] rfl ?_
 refine VC.cond_dec rfl (fun h65 => ?_) (fun h65 => ?_)
 ·
  replace hS := it_t h65 hS
  refine Zq ?_
  refine VC.draw [(0, true), (1, true), (2, true), (3, true), (4, true), (5, true), (6, true), (9, true), (7, false), (8, true), (10, true)] mixed (by kernel_rfl) (by kernel_rfl) (by kernel_rfl) ?_
  refine VD.q rfl (q_move rfl) (by decide) ?_
  refine VD.q rfl (q_nilCheck rfl) (by decide) ?_
  refine VD.q rfl (q_field gfa109_0 rfl) (by decide) ?_
  refine VD.q rfl (q_fe gone107 rfl rfl) (by decide) ?_
  refine VD.q rfl (q_lnm ObjectObject.pl (s := s_0.l) Tryz.underlying107 rfl) (by decide) ?_
  refine VD.q rfl (q_mkif Tryz.underlying115 (fun _ h => by cases h) rfl) (by decide) ?_
  refine VD.q rfl (q_build (vs := [(0, str [115, 116, 111, 114, 101]), (1, i64 ((s_0.l.l.map ObjectObject.pl).length : Int)), (2, (Er.no 4).val)]) (cs := #[str [115, 116, 111, 114, 101], i64 ((s_0.l.l.map ObjectObject.pl).length : Int), (Er.no 4).val]) rfl (by kernel_rfl)) (by decide) ?_
  refine VD.q rfl (q_assign rfl) (by decide) ?_
  refine VD.one rfl ?_
  refine VL.box (cs := [str [115, 116, 111, 114, 101], i64 ((s_0.l.l.map ObjectObject.pl).length : Int), (Er.no 4).val]) rfl rfl (by decide) fun b73_9 => ?_
  refine VL.back (D' := [(9, i64 0)]) (by kernel_rfl) (Pend.cons rfl (q_assign rfl) (Pend.nil)) ?_
  refine VD.shutB b73_9 ?_
  refine VD.q rfl (q_mkif Tryz.underlying114 (fun _ h => by cases h) rfl) (by decide) ?_
  refine VD.q rfl (q_assign rfl) (by decide) ?_
  refine VD.to (fun _ _ h => h) ?_
  refine VC.keep (ρ' := [(4, i64 0), (5, (Er.fault b73_9 [115, 116, 111, 114, 101] ((s_0.l.l.map ObjectObject.pl).length : Int) (Er.no 4)).val)]) [4, 5] rfl ?_
  cases hS
  exact VC.ret (fin2 (.inr rfl) rfl rfl rfl (0, (Er.fault b73_9 [115, 116, 111, 114, 101] ((s_0.l.l.map ObjectObject.pl).length : Int) (Er.no 4)), ⟨s_0.l, s_0.by_⟩) rfl rfl (by (try dsimp only); exact InM.out) (by (try dsimp only); exact EntO.out))
 replace hS := it_f h65 hS
 refine Zk ?_
 refine Zq ?_
 refine VC.draw [(0, true), (1, true), (2, true), (3, true), (4, true), (5, true), (6, false), (7, false), (8, false), (9, true), (10, true), (11, false)] mixed (by kernel_rfl) (by kernel_rfl) (by kernel_rfl) ?_
 refine VD.q rfl (q_move rfl) (by decide) ?_
 refine VD.q rfl (q_move rfl) (by decide) ?_
 refine VD.q rfl (q_nilCheck rfl) (by decide) ?_
 refine VD.q rfl (q_field gfa109_0 rfl) (by decide) ?_
 refine VD.q rfl (q_fe gone107 rfl rfl) (by decide) ?_
 refine VD.q rfl (q_fes gagg34 rfl rfl) (by decide) ?_
 refine VD.one rfl ?_
 obtain ⟨y81_10, ey81_10, hS⟩ := bd_s hS
 refine VL.callF (store_apart_ct o_1 ey81_10) rfl (by decide) ?_
 rintro q81_10_0 rfl
 try dsimp only
 refine VL.back (D' := [(4, s_0.l.val), (3, ptr s_0_b 0), (2, ptr s_0_b 0)]) (by kernel_rfl) (Pend.cons rfl (q_fe gone107 rfl rfl) (Pend.cons rfl (q_field gfa109_0 rfl) (Pend.cons rfl (q_nilCheck rfl) (Pend.nil)))) ?_
 refine VD.one rfl ?_
 refine VL.lit (α := ObjectObject) (xs := [.tmp 81]) (vs := [.agg #[i64 q81_10_0.kind, q81_10_0.data.val, q81_10_0.items.val, i64 q81_10_0.tree, q81_10_0.parents.val, i64 q81_10_0.time, str q81_10_0.text]]) [⟨q81_10_0.kind, q81_10_0.data, q81_10_0.items, q81_10_0.tree, q81_10_0.parents, q81_10_0.time, q81_10_0.text⟩] Tryz.underlying107 glit34 (by decide) rfl rfl rfl rfl (by decide) (fun h m => List.forall_mem_cons.2 ⟨InM.out (X := (q81_10_0.data.ok.and (q81_10_0.items.ok.and q81_10_0.parents.ok))) h m, fun _ h => by cases h⟩) (by decide) (fun s82_11 hs82_11 => ?_) (by decide)
 replace hS := lt_to (congrArg (List.map ObjectObject.pl) hs82_11) hS
 refine VL.back (D' := [(4, s_0.l.val), (3, ptr s_0_b 0), (2, ptr s_0_b 0)]) (by kernel_rfl) (Pend.cons rfl (q_fe gone107 rfl rfl) (Pend.cons rfl (q_field gfa109_0 rfl) (Pend.cons rfl (q_nilCheck rfl) (Pend.nil)))) ?_
 refine VD.one rfl ?_
 obtain ⟨b83, hS⟩ := gd_s hS
 refine VL.app (s := s_0.l) (r := s82_11) Tryz.underlying107 gapp34 (by decide) rfl Fo.out (ap1 (apm b83)) (ap2 (apm b83) (by decide)) (by decide) (fun s83_13 hs83_13 => ?_)
 replace hS := lt_to ((congrArg (List.map ObjectObject.pl) hs83_13).trans List.map_append) hS
 refine VL.maApp hs83_13 ?_
 refine VL.back (D' := []) (by kernel_rfl) (Pend.nil) ?_
 refine VD.q rfl (q_nilCheck rfl) (by decide) ?_
 refine VD.q rfl (q_field gfa109_0 rfl) (by decide) ?_
 refine VD.one rfl ?_
 refine VL.store (vc := [s83_13.val]) (cs' := [s83_13.val, s_0.by_.val]) rfl rfl rfl gsz107 rfl rfl (Nat.le_of_ble_eq_true rfl) rfl ?_
 refine VL.back (D' := []) (by kernel_rfl) (Pend.nil) ?_
 refine VD.to (fun _ _ h => h) ?_
 refine VC.keep (ρ' := [(0, ptr s_0_b 0), (6, q16_2_0.val)]) [0, 6] rfl ?_
 refine Zq ?_
 refine VC.draw [(0, true), (1, true), (2, true), (3, true), (4, true), (5, true), (6, true), (7, true), (8, true), (9, true), (10, true), (11, false)] mixed (by kernel_rfl) (by kernel_rfl) (by kernel_rfl) ?_
 refine VD.q rfl (q_move rfl) (by decide) ?_
 refine VD.q rfl (q_nilCheck rfl) (by decide) ?_
 refine VD.q rfl (q_field gfa109_1 rfl) (by decide) ?_
 refine VD.q rfl (q_fe gone106 rfl rfl) (by decide) ?_
 refine VD.q rfl (q_move rfl) (by decide) ?_
 refine VD.q rfl (q_b2s (s := q16_2_0) Tryz.underlying27 Tryz.underlying5 Tryz.underlying9 rfl) (by decide) ?_
 refine VD.q rfl (q_move rfl) (by decide) ?_
 refine VD.q rfl (q_nilCheck rfl) (by decide) ?_
 refine VD.q rfl (q_field gfa109_0 rfl) (by decide) ?_
 refine VD.q rfl (q_fe gone107 rfl rfl) (by decide) ?_
 refine VD.q rfl (q_lnm ObjectObject.pl (s := s83_13) Tryz.underlying107 rfl) (by decide) ?_
 refine VD.one rfl ?_
 obtain ⟨bs11, hS⟩ := gd_s hS
 refine VL.setMv (m := s_0.by_) (a0 := q16_2_0.l) (y0 := ((s83_13.l.map ObjectObject.pl).length : Int)) (Maps.string_keyed Tryz.underlying9) Tryz.underlying106 Fo.out rfl rfl rfl (keyS Tryz.underlying9 bs11.2.1) (elI Tryz.underlying3 bs11.2.2) (by exact bs11.1) fun ms11_15 hms11_15 vms11_15 => ?_
 rw [← vms11_15]
 replace hS := lt_to hms11_15 hS
 refine VL.back (D' := []) (by kernel_rfl) (Pend.nil) ?_
 refine VD.to (fun _ _ h => h) ?_
 refine VC.keep (ρ' := [(0, ptr s_0_b 0)]) [0] rfl ?_
 refine Zq (Zr ?_)
 refine Zm ?_
 refine VL.q (q_nilCheck rfl) (by decide) ?_
 refine VL.q (q_field gfa109_0 rfl) (by decide) ?_
 refine VL.q (q_fe gone107 rfl rfl) (by decide) ?_
 refine VL.q (q_lnm ObjectObject.pl (s := s83_13) Tryz.underlying107 rfl) (by decide) ?_
 refine Za ?_
 refine Za ?_
 refine Zl ?_
 cases hS
 exact VC.ret (fin2 (.inr rfl) rfl rfl rfl (((s83_13.l.map ObjectObject.pl).length : Int), .nil, ⟨s83_13, ms11_15⟩) rfl rfl (by (try dsimp only); exact InM.out) (by (try dsimp only); exact EntO.out))
theorem store_Store_Get_ct (s_0_b : Nat) (s_0 : StoreStore) (id_1 : Int) {r : ObjectObjectP × Bool} (hS : Sh.store_Store_Get s_0.pl id_1 = some r) :
 Ct Tryz.prog 49 [ptr s_0_b 0, i64 id_1] (MAl s_0.l.l) (Ow.star (Sv.own s_0.l 34) (Ow.star (Mv.own s_0.by_ Tryz.prog 9 3 kStr kInt) (Blk s_0_b [s_0.l.val, s_0.by_.val] 109))) (X := ObjectObject × Bool) (fun x => .tuple #[.agg (Dat.enc x.1).toArray, .bool x.2]) (fun x => r = (x.1.pl, x.2)) (fun x => x.1.m) (fun x => Ow.star (Blk s_0_b [s_0.l.val, s_0.by_.val] 109) (Ow.star (Sv.own s_0.l 34) (Mv.own s_0.by_ Tryz.prog 9 3 kStr kInt))) := by
 refine Ct.of Tryz.func49 rfl (by kernel_rfl) Tryz.ntmps49 (by simp) fun c => ?_
 unfold Sh.store_Store_Get at hS
 refine Zq (Zr ?_)
 refine VL.alloc (cs := [i64 0, .slice none 0 0, .slice none 0 0, i64 0, .slice none 0 0, i64 0, str []]) (by kernel_rfl) (by decide) fun b4_1 => ?_
 refine Za ?_
 refine Zl ?_
 refine Zq (Zq (Zr ?_))
 refine Zm ?_
 refine Zm ?_
 obtain ⟨y8_2, ey8_2, hS⟩ := bd_s hS
 refine VL.callO (store_Store_kind_ct s_0_b s_0 id_1 ey8_2) rfl (by decide) ?_
 rintro _ _
 try dsimp only
 refine VL.q (q_eql rfl rfl) (by decide) ?_
 refine Zl ?_
 refine VC.cond_dec rfl (fun h9 => ?_) (fun h9 => ?_)
 ·
  replace hS := it_t h9 hS
  refine Zq (Zr ?_)
  refine VL.q (q_build (vs := []) (cs := #[i64 0, .slice none 0 0, .slice none 0 0, i64 0, .slice none 0 0, i64 0, str []]) rfl (by kernel_rfl)) (by decide) ?_
  refine VL.store (vc := [i64 0, .slice none 0 0, .slice none 0 0, i64 0, .slice none 0 0, i64 0, str []]) (cs' := [i64 0, .slice none 0 0, .slice none 0 0, i64 0, .slice none 0 0, i64 0, str []]) rfl rfl rfl gsz34 rfl rfl (Nat.le_of_ble_eq_true rfl) rfl ?_
  refine Za ?_
  refine Zl ?_
  cases hS
  exact VC.ret (finG (vs := [.agg #[i64 0, .slice none 0 0, .slice none 0 0, i64 0, .slice none 0 0, i64 0, str []], .bool false]) (.inr rfl) rfl (RVs.cell gagg34 rfl rfl Rd.blk (RVs.tmp rfl (RVs.nil))) (⟨0, ⟨none, 0, []⟩, ⟨none, 0, []⟩, 0, ⟨none, 0, []⟩, 0, []⟩, false) rfl rfl (by (try dsimp only); exact InM.out) (by (try dsimp only); exact EntO.out))
 replace hS := it_f h9 hS
 refine Zk ?_
 refine Zq (Zr ?_)
 refine Zm ?_
 refine VL.q (q_nilCheck rfl) (by decide) ?_
 refine VL.q (q_field gfa109_0 rfl) (by decide) ?_
 refine VL.q (q_fe gone107 rfl rfl) (by decide) ?_
 refine Zm ?_
 obtain ⟨b16, hS⟩ := gd_s hS
 refine VL.q (q_sub rfl rfl b16) (by decide) ?_
 obtain ⟨z17_3, nz17_3, hz17_3, hS⟩ := atm_s hS
 refine VL.deepO z17_3.m hz17_3 (fun _ q => q) ?_
 refine VL.q (q_ixo (s := s_0.l) Tryz.underlying107 gsz34 rfl rfl nz17_3 (lt_of_get nz17_3 hz17_3)) (by decide) ?_
 refine VL.q (q_elso (s := s_0.l) gagg34 rfl rfl hz17_3) (by decide) ?_
 obtain ⟨y19_4, ey19_4, hS⟩ := bd_s hS
 refine VL.callF (store_apart_ct z17_3 ey19_4) rfl (by decide) ?_
 rintro q19_4_0 rfl
 try dsimp only
 refine VL.store (vc := [i64 q19_4_0.kind, q19_4_0.data.val, q19_4_0.items.val, i64 q19_4_0.tree, q19_4_0.parents.val, i64 q19_4_0.time, str q19_4_0.text]) (cs' := [i64 q19_4_0.kind, q19_4_0.data.val, q19_4_0.items.val, i64 q19_4_0.tree, q19_4_0.parents.val, i64 q19_4_0.time, str q19_4_0.text]) rfl rfl rfl gsz34 rfl rfl (Nat.le_of_ble_eq_true rfl) rfl ?_
 refine Za ?_
 refine Zl ?_
 refine VC.keep (ρ' := [(4, ptr b4_1 0), (5, .bool true)]) [4, 5] rfl ?_
 cases hS
 exact VC.ret (finG (vs := [.agg #[i64 q19_4_0.kind, q19_4_0.data.val, q19_4_0.items.val, i64 q19_4_0.tree, q19_4_0.parents.val, i64 q19_4_0.time, str q19_4_0.text], .bool true]) (.inr rfl) rfl (RVs.cell gagg34 rfl rfl Rd.blk (RVs.tmp rfl (RVs.nil))) (⟨q19_4_0.kind, q19_4_0.data, q19_4_0.items, q19_4_0.tree, q19_4_0.parents, q19_4_0.time, q19_4_0.text⟩, true) rfl rfl (by (try dsimp only); exact InM.out) (by (try dsimp only); exact EntO.out))
theorem store_Store_Find_ct (s_0_b : Nat) (s_0 : StoreStore) (o_1 : ObjectObject) {r : Int × Bool} (hS : Sh.store_Store_Find s_0.pl o_1.pl = some r) :
 Ct Tryz.prog 50 [ptr s_0_b 0, .agg #[i64 o_1.kind, o_1.data.val, o_1.items.val, i64 o_1.tree, o_1.parents.val, i64 o_1.time, str o_1.text]] ((MAl s_0.l.l).and (o_1.data.ok.and (o_1.items.ok.and o_1.parents.ok))) (Ow.star (Sv.own s_0.l 34) (Ow.star (Mv.own s_0.by_ Tryz.prog 9 3 kStr kInt) (Blk s_0_b [s_0.l.val, s_0.by_.val] 109))) (X := Unit) (fun _ => .tuple #[i64 r.1, .bool r.2]) (fun _ => True) (fun _ => Mo.tt) (fun _ => Ow.star (Blk s_0_b [s_0.l.val, s_0.by_.val] 109) (Ow.star (Sv.own s_0.l 34) (Mv.own s_0.by_ Tryz.prog 9 3 kStr kInt))) := by
 refine Ct.of Tryz.func50 rfl (by kernel_rfl) Tryz.ntmps50 (by simp) fun c => ?_
 unfold Sh.store_Store_Find at hS
 refine Zq (Zr ?_)
 refine VL.box (cs := [i64 o_1.kind, o_1.data.val, o_1.items.val, i64 o_1.tree, o_1.parents.val, i64 o_1.time, str o_1.text]) rfl rfl (by decide) fun b3_1 => ?_
 refine Za ?_
 refine Za ?_
 refine Zl ?_
 refine Zq (Zr ?_)
 refine VL.q (q_fes gagg34 rfl rfl) (by decide) ?_
 obtain ⟨y12_2, ey12_2, hS⟩ := bd_s hS
 refine VL.callO (object_Encode_ct o_1 ey12_2) rfl (by decide) ?_
 rintro ⟨q12_2_0, q12_2_1⟩ rfl
 try dsimp only
 refine Zm ?_
 refine VL.q (q_extract rfl rfl) (by decide) ?_
 refine VL.q (q_extract rfl rfl) (by decide) ?_
 refine Za ?_
 refine Za ?_
 refine Zl ?_
 refine VC.keep (ρ' := [(0, ptr s_0_b 0), (6, q12_2_0.val), (7, q12_2_1.val)]) [0, 6, 7] rfl ?_
 refine Zq (Zq (Zr ?_))
 refine Zm ?_
 refine VL.q (q_erne Tryz.underlying29 rfl) (by decide) ?_
 refine Zl ?_
 refine VC.cond_ndec rfl (fun h16 => ?_) (fun h16 => ?_)
 ·
  replace hS := it_f h16 hS
  refine Zq (Zr ?_)
  refine Za ?_
  refine Za ?_
  refine Zl ?_
  cases hS
  exact VC.ret (fin2 (.inr rfl) rfl rfl rfl () rfl trivial (fun _ _ => trivial) (by (try dsimp only); exact EntO.out))
 replace hS := it_t h16 hS
 refine Zk ?_
 refine Zq ?_
 refine VC.draw ((List.range 12).map fun k => (k, true)) mixed (by kernel_rfl) (by kernel_rfl) (by kernel_rfl) ?_
 refine VD.q rfl (q_move rfl) (by decide) ?_
 refine VD.q rfl (q_nilCheck rfl) (by decide) ?_
 refine VD.q rfl (q_field gfa109_1 rfl) (by decide) ?_
 refine VD.q rfl (q_fe gone106 rfl rfl) (by decide) ?_
 refine VD.q rfl (q_move rfl) (by decide) ?_
 refine VD.q rfl (q_b2s (s := q12_2_0) Tryz.underlying27 Tryz.underlying5 Tryz.underlying9 rfl) (by decide) ?_
 obtain ⟨b24, hS⟩ := gd_s hS
 refine VD.q rfl (q_lookMv (m := s_0.by_) (a0 := q12_2_0.l) (Maps.string_keyed Tryz.underlying9) Tryz.underlying106 Tryz.underlying3 gzm3 rfl rfl (keyS Tryz.underlying9 b24)) (by decide) ?_
 refine VD.q rfl (q_move rfl) (by decide) ?_
 refine VD.q rfl (q_extract rfl rfl) (by decide) ?_
 refine VD.q rfl (q_extract rfl rfl) (by decide) ?_
 refine VD.q rfl (q_assign rfl) (by decide) ?_
 refine VD.q rfl (q_assign rfl) (by decide) ?_
 refine VD.to (fun _ _ h => h) ?_
 refine VC.keep (ρ' := [(8, i64 ((mget s_0.by_.l q12_2_0.l).getD 0)), (9, .bool ((mget s_0.by_.l q12_2_0.l).isSome))]) [8, 9] rfl ?_
 refine Zq (Zr ?_)
 refine Zm ?_
 refine Zm ?_
 refine Za ?_
 refine Za ?_
 refine Zl ?_
 cases hS
 exact VC.ret (fin2 (.inr rfl) rfl rfl rfl () rfl trivial (fun _ _ => trivial) (by (try dsimp only); exact EntO.out))
theorem store_Store_Reach_ct (s_0_b : Nat) (s_0 : StoreStore) (ids_1 : Sv Int) {r : List Int} (hS : Sh.store_Store_Reach s_0.pl ids_1.l = some r) :
 Ct Tryz.prog 51 [ptr s_0_b 0, ids_1.val] ((MAl s_0.l.l).and ids_1.ok) (Ow.star (Sv.own s_0.l 34) (Ow.star (Mv.own s_0.by_ Tryz.prog 9 3 kStr kInt) (Blk s_0_b [s_0.l.val, s_0.by_.val] 109))) (X := Sv Int) (fun x => x.val) (fun x => r = x.l) (fun x => x.ok) (fun x => Ow.star (Blk s_0_b [s_0.l.val, s_0.by_.val] 109) (Ow.star (Sv.own s_0.l 34) (Mv.own s_0.by_ Tryz.prog 9 3 kStr kInt))) := by
 refine Ct.of Tryz.func51 rfl (by kernel_rfl) Tryz.ntmps51 (by simp) fun c => ?_
 unfold Sh.store_Store_Reach at hS
 refine Zq (Zr ?_)
 refine Za ?_
 refine Zl ?_
 refine Zq (Zr ?_)
 refine VL.mkMv (k := 3) (e := 4) (A := kInt) (B := kBool) (by decide) fun m10_1 hm10_1 => ?_
 replace hS := lt_to hm10_1 hS
 refine Za ?_
 refine Zl ?_
 refine Zq (Zr ?_)
 refine Zm ?_
 obtain ⟨y12_3, ey12_3, hS⟩ := bd_s hS
 refine VL.callO (slices_Clone_int_int_ct ids_1 ey12_3) rfl (by decide) ?_
 rintro q12_3_0 rfl
 try dsimp only
 refine Za ?_
 refine Zl ?_
 refine Zq (Zb ?_)
 refine VC.iter (S := Mv Int Bool × Sv Int) (fun sg => (sg.1.l, sg.2.l)) (fun sg => [(0, ptr s_0_b 0), (5, sg.1.val), (6, sg.2.val)]) (fun sg => Mo.tt) (fun sg => Ow.star (Blk s_0_b [s_0.l.val, s_0.by_.val] 109) (Ow.star (Sv.own s_0.l 34) (Ow.star (Mv.own s_0.by_ Tryz.prog 9 3 kStr kInt) (Ow.star (Mv.own sg.1 Tryz.prog 3 4 kInt kBool) (Ow.star (Sv.own sg.2 3) (Ow.emp)))))) (m10_1, q12_3_0) [0, 5, 6] hS rfl ?_
 clear hS
 rintro ⟨seen5_4, wait6_5⟩ m1 y1 hS hK1
 show VC _ _ _ _ _ [(0, ptr s_0_b 0), (5, seen5_4.val), (6, wait6_5.val)] (Mo.and Mo.tt _) (Ow.star (Blk s_0_b [s_0.l.val, s_0.by_.val] 109) (Ow.star (Sv.own s_0.l 34) (Ow.star (Mv.own s_0.by_ Tryz.prog 9 3 kStr kInt) (Ow.star (Mv.own seen5_4 Tryz.prog 3 4 kInt kBool) (Ow.star (Sv.own wait6_5 3) (Ow.emp))))))
 refine Zq (Zq (Zr ?_))
 refine Zm ?_
 refine VL.q (q_ln (s := wait6_5) Tryz.underlying26 rfl) (by decide) ?_
 refine VL.q (q_gtr rfl rfl) (by decide) ?_
 refine Zl ?_
 refine VC.cond_dec rfl (fun h15 => ?_) (fun h15 => ?_)
 ·
  replace hS := it_t h15 hS
  refine Zk ?_
  refine Zb (Zq (Zr ?_))
  refine Zm ?_
  refine Zm ?_
  refine VL.q (q_ln (s := wait6_5) Tryz.underlying26 rfl) (by decide) ?_
  obtain ⟨b19, hS⟩ := gd_s hS
  refine VL.q (q_sub rfl rfl b19) (by decide) ?_
  obtain ⟨z20_6, nz20_6, hz20_6, hS⟩ := at_s hS
  refine VL.q (q_ixo (s := wait6_5) Tryz.underlying26 gsz3 rfl rfl nz20_6 (lt_of_get nz20_6 hz20_6)) (by decide) ?_
  refine VL.q (q_elo (s := wait6_5) 3 gone3 rfl hz20_6 rfl) (by decide) ?_
  refine Za ?_
  refine Zl ?_
  refine VC.keep (ρ' := [(0, ptr s_0_b 0), (5, seen5_4.val), (6, wait6_5.val), (7, i64 z20_6)]) [0, 5, 6, 7] rfl ?_
  refine Zq (Zr ?_)
  refine Zm ?_
  refine Zm ?_
  refine VL.q (q_ln (s := wait6_5) Tryz.underlying26 rfl) (by decide) ?_
  obtain ⟨b25, hS⟩ := gd_s hS
  refine VL.q (q_sub rfl rfl b25) (by decide) ?_
  obtain ⟨b26, hS⟩ := gd_s hS
  refine VL.ownT (s := wait6_5) Tryz.underlying26 gsz3 rfl rfl b26.1 b26.2 Fo.out (by decide) fun s26_7 hs26_7 => ?_
  replace hS := lt_to hs26_7 hS
  refine Za ?_
  refine Zl ?_
  refine Zq (Zq (Zr ?_))
  refine Zm ?_
  refine Zm ?_
  obtain ⟨y29_9, ey29_9, hS⟩ := bd_s hS
  refine VL.callO (store_Store_kind_ct s_0_b s_0 z20_6 ey29_9) rfl (by decide) ?_
  rintro _ _
  try dsimp only
  refine VL.q (q_eql rfl rfl) (by decide) ?_
  refine Zm ?_
  refine VL.split_dec 31 rfl (fun h31 => ?_) (fun h31 => ?_)
  ·
   replace hS := it_t h31 hS
   refine VL.runs 4 [(35, some true)] (by kernel_rfl) ?_
   refine Zl ?_
   refine VC.keep (ρ' := [(0, ptr s_0_b 0), (5, seen5_4.val), (6, s26_7.val), (7, i64 z20_6), (35, .bool true)]) [0, 5, 6, 7, 35] rfl ?_
   refine VC.cond_t rfl ?_
   refine VC.exit_rnd (seen5_4, s26_7) [0, 5, 6] (fun _ _ h => h) (go2 hS hK1) rfl
  replace hS := it_f h31 hS
  refine Zg ?_
  refine Zg ?_
  obtain ⟨b34, hS⟩ := gd_s hS
  refine VL.gy rfl rfl (q_lookMb (m := seen5_4) (a0 := z20_6) (Maps.int_keyed Tryz.underlying3) Tryz.underlying174 Tryz.underlying4 gzm4 rfl rfl (keyI Tryz.underlying3 b34)) (by decide) ?_
  refine Zf ?_
  refine Zl ?_
  refine VC.keep (ρ' := [(0, ptr s_0_b 0), (5, seen5_4.val), (6, s26_7.val), (7, i64 z20_6), (35, .bool ((mget seen5_4.l z20_6).getD false))]) [0, 5, 6, 7, 35] rfl ?_
  refine VC.cond rfl (fun h35 => ?_) (fun h35 => ?_)
  ·
   replace hS := it_t h35 hS
   refine VC.exit_rnd (seen5_4, s26_7) [0, 5, 6] (fun _ _ h => h) (go2 hS hK1) rfl
  replace hS := it_b h35 hS
  refine Zk ?_
  refine Zq (Zr ?_)
  refine Zm ?_
  refine Zm ?_
  obtain ⟨bs2, hS⟩ := gd_s hS
  refine VL.setMv (m := seen5_4) (a0 := z20_6) (y0 := true) (Maps.int_keyed Tryz.underlying3) Tryz.underlying174 Fo.out rfl rfl rfl (keyI Tryz.underlying3 bs2.2) (elB Tryz.underlying4) (by exact bs2.1) fun ms2_10 hms2_10 vms2_10 => ?_
  rw [← vms2_10]
  replace hS := lt_to hms2_10 hS
  refine Zl ?_
  refine Zq (Zr ?_)
  refine Zm ?_
  refine VL.q (q_nilCheck rfl) (by decide) ?_
  refine VL.q (q_field gfa109_0 rfl) (by decide) ?_
  refine VL.q (q_fe gone107 rfl rfl) (by decide) ?_
  refine Zm ?_
  obtain ⟨b44, hS⟩ := gd_s hS
  refine VL.q (q_sub rfl rfl b44) (by decide) ?_
  obtain ⟨z45_12, nz45_12, hz45_12, hS⟩ := atm_s hS
  refine VL.deepO z45_12.m hz45_12 (fun _ q => q) ?_
  refine VL.q (q_ixo (s := s_0.l) Tryz.underlying107 gsz34 rfl rfl nz45_12 (lt_of_get nz45_12 hz45_12)) (by decide) ?_
  refine VL.q (q_elso (s := s_0.l) gagg34 rfl rfl hz45_12) (by decide) ?_
  obtain ⟨y47_13, ey47_13, hS⟩ := bd_s hS
  refine VL.callO (store_refs_ct z45_12 ey47_13) rfl (by decide) ?_
  rintro ⟨q47_13_0, q47_13_1⟩ rfl
  try dsimp only
  refine Zm ?_
  refine VL.q (q_extract rfl rfl) (by decide) ?_
  refine VL.q (q_extract rfl rfl) (by decide) ?_
  refine Za ?_
  refine Za ?_
  refine Zl ?_
  refine VC.keep (ρ' := [(0, ptr s_0_b 0), (5, ms2_10.val), (6, s26_7.val), (8, q47_13_0.val)]) [0, 5, 6, 8] rfl ?_
  refine Zr ?_
  refine Zm ?_
  refine Zm ?_
  refine VL.shut q47_13_0 3 (fun _ _ _ _ => trivial) ?_
  obtain ⟨b52, hS⟩ := gd_s hS
  refine VL.app (s := s26_7) (r := q47_13_0) Tryz.underlying26 gapp3 (by decide) rfl Fo.out (ap1 b52) (ap2 b52 (by decide)) (by decide) (fun s52_14 hs52_14 => ?_)
  replace hS := lt_to hs52_14 hS
  refine Za ?_
  refine VL.rnd (ms2_10, s52_14) [0, 5, 6] (fun _ _ h => h) (go2 hS hK1) rfl
 replace hS := it_f h15 hS
 replace hS := up2 hS hK1
 refine Zx ?_
 refine Zq (Zr ?_)
 refine Zm ?_
 refine VL.callO (Ct.mapKeys (b := seen5_4.b) (entry_of Tryz.func111 rfl (by kernel_rfl)) Tryz.mapsKeys_111) rfl (by decide) ?_
 intro B54_16 _
 try dsimp only
 obtain ⟨b55, hS⟩ := gd_s hS
 refine VL.callO (Ct.sortedKeysI (B' := kBool) (it := 173) (T := 174) (b := seen5_4.b) (B := B54_16) (e := 4) (l := seen5_4.l) (entry_of Tryz.func110 rfl (by kernel_rfl)) Tryz.underlying3 (fun D0 nn W h1 h2 h3 h4 h5 => Tryz.sortedKeys_110_111 B54_16 seen5_4.b nn D0 _ W h1 h2 h3 h4 h5) b55) rfl (by decide) ?_
 intro s55_17 hs55_17
 try dsimp only
 replace hS := lt_to hs55_17 hS
 refine VL.shut s55_17 3 (fun _ _ _ _ => trivial) ?_
 obtain ⟨y56_19, ey56_19, hS⟩ := bd_s hS
 refine VL.callF (slices_Clip_int_int_ct s55_17 ey56_19) rfl (by decide) ?_
 rintro q56_19_0 rfl
 try dsimp only
 refine Za ?_
 refine Zl ?_
 refine VC.keep (ρ' := [(4, q56_19_0.val)]) [4] rfl ?_
 cases hS
 exact VC.ret (fin1 (.inr rfl) rfl rfl q56_19_0 rfl rfl (by (try dsimp only); exact InM.out) (by (try dsimp only); exact EntO.out))
theorem store_Store_Bytes_ct (s_0_b : Nat) (s_0 : StoreStore) {r : List UInt8} (hS : Sh.store_Store_Bytes s_0.pl = some r) :
 Ct Tryz.prog 53 [ptr s_0_b 0] (MAl s_0.l.l) (Ow.star (Sv.own s_0.l 34) (Ow.star (Mv.own s_0.by_ Tryz.prog 9 3 kStr kInt) (Blk s_0_b [s_0.l.val, s_0.by_.val] 109))) (X := Sv UInt8) (fun x => x.val) (fun x => r = x.l) (fun x => x.ok) (fun x => Ow.star (Blk s_0_b [s_0.l.val, s_0.by_.val] 109) (Ow.star (Sv.own s_0.l 34) (Mv.own s_0.by_ Tryz.prog 9 3 kStr kInt))) := by
 refine Ct.of Tryz.func53 rfl (by kernel_rfl) Tryz.ntmps53 (by simp) fun c => ?_
 unfold Sh.store_Store_Bytes at hS
 refine Zq (Zr ?_)
 refine Za ?_
 refine Zl ?_
 refine Zq (Zr ?_)
 refine VL.alloc (cs := [.slice none 0 0]) (by kernel_rfl) (by decide) fun b3_1 => ?_
 refine Zl ?_
 refine Zq (Zr ?_)
 refine Zm ?_
 refine VL.q (q_nilCheck rfl) (by decide) ?_
 refine VL.q (q_field gfa109_0 rfl) (by decide) ?_
 refine VL.q (q_fe gone107 rfl rfl) (by decide) ?_
 refine VL.q (q_lnm ObjectObject.pl (s := s_0.l) Tryz.underlying107 rfl) (by decide) ?_
 refine VL.lit (α := Int) (xs := [.tmp 12]) (vs := [i64 ((s_0.l.l.map ObjectObject.pl).length : Int)]) [((s_0.l.l.map ObjectObject.pl).length : Int)] Tryz.underlying26 glit3 (by decide) rfl rfl rfl rfl (by decide) (fun _ _ _ _ => trivial) (by decide) (fun s13_2 hs13_2 => ?_) (by decide)
 replace hS := lt_to hs13_2 hS
 refine VL.nilO (⟨none, 0, []⟩ : Sv UInt8) 5 ⟨rfl, rfl⟩ ?_
 refine VL.reB b3_1 (cs' := [(⟨none, 0, []⟩ : Sv UInt8).val]) rfl ?_
 obtain ⟨y14_4, ey14_4, hS⟩ := bd_s hS
 refine VL.callO (codec_Enc_Int_ct b3_1 (⟨(⟨none, 0, []⟩ : Sv UInt8)⟩ : CodecEnc) s13_2 ey14_4) rfl (by decide) ?_
 rintro q14_4_0 rfl
 try dsimp only
 refine Zl ?_
 refine Zq (Zq (Zr ?_))
 refine Zm ?_
 refine VL.q (q_nilCheck rfl) (by decide) ?_
 refine VL.q (q_field gfa109_0 rfl) (by decide) ?_
 refine VL.q (q_fe gone107 rfl rfl) (by decide) ?_
 refine VL.q (q_lnm ObjectObject.pl (s := s_0.l) Tryz.underlying107 rfl) (by decide) ?_
 refine Zm ?_
 refine Zl ?_
 refine VC.keep (ρ' := [(3, ptr b3_1 0), (18, s_0.l.val), (19, i64 ((s_0.l.l.map ObjectObject.pl).length : Int)), (20, i64 0)]) [3, 18, 19, 20] rfl ?_
 refine Zb ?_
 refine VC.iter (S := Int × Sv UInt8) (fun sg => (sg.1, sg.2.l)) (fun sg => [(3, ptr b3_1 0), (18, s_0.l.val), (19, i64 ((s_0.l.l.map ObjectObject.pl).length : Int)), (20, i64 sg.1)]) (fun sg => Mo.tt) (fun sg => Ow.star (Blk b3_1 [sg.2.val] 155) (Ow.star (Blk s_0_b [s_0.l.val, s_0.by_.val] 109) (Ow.star (Sv.own s_0.l 34) (Ow.star (Mv.own s_0.by_ Tryz.prog 9 3 kStr kInt) (Ow.star (Sv.own sg.2 5) (Ow.emp)))))) (0, q14_4_0.b) [3, 18, 19, 20] hS rfl ?_
 clear hS
 rintro ⟨x20_5, c0_6⟩ m1 y1 hS hK1
 show VC _ _ _ _ _ [(3, ptr b3_1 0), (18, s_0.l.val), (19, i64 ((s_0.l.l.map ObjectObject.pl).length : Int)), (20, i64 x20_5)] (Mo.and Mo.tt _) (Ow.star (Blk b3_1 [c0_6.val] 155) (Ow.star (Blk s_0_b [s_0.l.val, s_0.by_.val] 109) (Ow.star (Sv.own s_0.l 34) (Ow.star (Mv.own s_0.by_ Tryz.prog 9 3 kStr kInt) (Ow.star (Sv.own c0_6 5) (Ow.emp))))))
 refine Zq (Zr ?_)
 refine VL.q (q_lss rfl rfl) (by decide) ?_
 refine Zl ?_
 refine Zq ?_
 refine VC.cond_dec rfl (fun h21 => ?_) (fun h21 => ?_)
 ·
  replace hS := it_t h21 hS
  refine Zk ?_
  refine Zq (Zb (Zq (Zr ?_)))
  obtain ⟨z22_7, nz22_7, hz22_7, hS⟩ := atm_s hS
  refine VL.deepO z22_7.m hz22_7 (fun _ q => q) ?_
  refine VL.q (q_ixo (s := s_0.l) Tryz.underlying107 gsz34 rfl rfl nz22_7 (lt_of_get nz22_7 hz22_7)) (by decide) ?_
  refine VL.q (q_elso (s := s_0.l) gagg34 rfl rfl hz22_7) (by decide) ?_
  refine VL.alloc (cs := [i64 0, .slice none 0 0, .slice none 0 0, i64 0, .slice none 0 0, i64 0, str []]) (by kernel_rfl) (by decide) fun b5_8 => ?_
  refine VL.store (vc := [i64 z22_7.kind, z22_7.data.val, z22_7.items.val, i64 z22_7.tree, z22_7.parents.val, i64 z22_7.time, str z22_7.text]) (cs' := [i64 z22_7.kind, z22_7.data.val, z22_7.items.val, i64 z22_7.tree, z22_7.parents.val, i64 z22_7.time, str z22_7.text]) rfl rfl rfl gsz34 rfl rfl (Nat.le_of_ble_eq_true rfl) rfl ?_
  refine Zl ?_
  refine Zq (Zr ?_)
  refine VL.q (q_fes gagg34 rfl rfl) (by decide) ?_
  obtain ⟨y26_9, ey26_9, hS⟩ := bd_s hS
  refine VL.callO (object_Encode_ct z22_7 ey26_9) rfl (by decide) ?_
  rintro ⟨q26_9_0, q26_9_1⟩ rfl
  try dsimp only
  refine Zm ?_
  refine VL.q (q_extract rfl rfl) (by decide) ?_
  refine VL.q (q_extract rfl rfl) (by decide) ?_
  refine Za ?_
  refine Za ?_
  refine Zl ?_
  refine VC.keep (ρ' := [(3, ptr b3_1 0), (18, s_0.l.val), (19, i64 ((s_0.l.l.map ObjectObject.pl).length : Int)), (20, i64 x20_5), (6, q26_9_0.val)]) [3, 18, 19, 20, 6] rfl ?_
  refine Zr ?_
  refine Zm ?_
  refine VL.q (q_b2s (s := q26_9_0) Tryz.underlying27 Tryz.underlying5 Tryz.underlying9 rfl) (by decide) ?_
  refine VL.lit (α := Str) (xs := [.tmp 30]) (vs := [str q26_9_0.l]) [q26_9_0.l] Tryz.underlying82 glit9 (by decide) rfl rfl rfl rfl (by decide) (fun _ _ _ _ => trivial) (by decide) (fun s31_10 hs31_10 => ?_) (by decide)
  replace hS := lt_to hs31_10 hS
  obtain ⟨y32_12, ey32_12, hS⟩ := bd_s hS
  refine VL.callO (codec_Enc_Text_ct b3_1 (⟨c0_6⟩ : CodecEnc) s31_10 ey32_12) rfl (by decide) ?_
  rintro q32_12_0 rfl
  try dsimp only
  refine Zl ?_
  refine Zr ?_
  obtain ⟨b33, hS⟩ := gd_s hS
  refine VL.q (q_add rfl rfl b33) (by decide) ?_
  refine Zm ?_
  refine VL.rnd ((x20_5 + 1), q32_12_0.b) [3, 18, 19, 20] (fun _ _ h => h) (go2 hS hK1) rfl
 replace hS := it_f h21 hS
 replace hS := up2 hS hK1
 refine Zx ?_
 refine Zq (Zr ?_)
 obtain ⟨y34_13, ey34_13, hS⟩ := bd_s hS
 refine VL.callO (codec_Enc_Bytes_ct b3_1 (⟨c0_6⟩ : CodecEnc) ey34_13) rfl (by decide) ?_
 rintro q34_13_0 rfl
 try dsimp only
 refine Za ?_
 refine Zl ?_
 cases hS
 exact VC.ret (fin1 (.inr rfl) rfl rfl q34_13_0 rfl rfl (by (try dsimp only); exact InM.out) (by (try dsimp only); exact EntO.out))
theorem codec_Of_ct (b_0 : Sv UInt8) {r : CodecDecP} (hS : Sh.codec_Of b_0.l = some r) :
 Ct Tryz.prog 95 [b_0.val] b_0.ok (Ow.emp) (X := Nat × CodecDec) (fun x => ptr x.1 0) (fun x => r = x.2.pl) (fun x => (x.2.b.ok.and x.2.err.ok)) (fun x => Blk x.1 [x.2.b.val, i64 x.2.at_, x.2.err.val] 239) := by
 refine Ct.of Tryz.func95 rfl (by kernel_rfl) Tryz.ntmps95 (by simp) fun c => ?_
 unfold Sh.codec_Of at hS
 refine Zq (Zr ?_)
 refine Za ?_
 refine Zl ?_
 refine Zq (Zr ?_)
 refine Zm ?_
 obtain ⟨y4_1, ey4_1, hS⟩ := bd_s hS
 refine VL.callO (slices_Clone_byte_byte_ct b_0 ey4_1) rfl (by decide) ?_
 rintro q4_1_0 rfl
 try dsimp only
 refine VL.q (q_build (vs := [(0, q4_1_0.val)]) (cs := #[q4_1_0.val, i64 0, .nilIface]) rfl (by kernel_rfl)) (by decide) ?_
 refine VL.box (cs := [q4_1_0.val, i64 0, .nilIface]) rfl rfl (by decide) fun b6_2 => ?_
 refine Za ?_
 refine Zl ?_
 refine VC.shut q4_1_0 5 (fun _ _ _ _ => trivial) ?_
 refine VC.reB b6_2 (cs' := [q4_1_0.val, i64 0, (Er.nil).val]) rfl ?_
 cases hS
 exact VC.ret (fin1 (.inr rfl) rfl rfl (b6_2, ⟨q4_1_0, 0, (Er.nil)⟩) rfl rfl (by (try dsimp only); exact InM.out) (by (try dsimp only); exact EntO.out))
theorem codec_Dec_uint_ct (d_0_b : Nat) (d_0 : CodecDec) {r : Int × Int × CodecDecP} (hS : Sh.codec_Dec_uint d_0.pl = some r) :
 Ct Tryz.prog 166 [ptr d_0_b 0] (d_0.b.ok.and d_0.err.ok) (Blk d_0_b [d_0.b.val, i64 d_0.at_, d_0.err.val] 239) (X := Int × Int × CodecDec) (fun x => .tuple #[.int .u64 x.1, i64 x.2.1]) (fun x => r = (x.1, x.2.1, x.2.2.pl)) (fun x => (x.2.2.b.ok.and x.2.2.err.ok)) (fun x => Blk d_0_b [x.2.2.b.val, i64 x.2.2.at_, x.2.2.err.val] 239) := by
 refine Ct.of Tryz.func166 rfl (by kernel_rfl) Tryz.ntmps166 (by simp) fun c => ?_
 unfold Sh.codec_Dec_uint at hS
 refine Zq (Zr ?_)
 refine Za ?_
 refine Za ?_
 refine Zl ?_
 refine Zq (Zr ?_)
 refine Za ?_
 refine Zl ?_
 refine Zq (Zq (Zr ?_))
 refine Zm ?_
 refine Zl ?_
 refine Zb ?_
 refine VC.iter (S := Int × Int) (fun sg => (sg.1, sg.2)) (fun sg => [(0, ptr d_0_b 0), (4, .int .u64 sg.1), (7, i64 sg.2)]) (fun sg => Mo.tt) (fun sg => Ow.star (Blk d_0_b [d_0.b.val, i64 d_0.at_, d_0.err.val] 239) (Ow.emp)) (0, 0) [0, 4, 7] hS rfl ?_
 clear hS
 rintro ⟨v4_1, x7_2⟩ m1 y1 hS hK1
 show VC _ _ _ _ _ [(0, ptr d_0_b 0), (4, .int .u64 v4_1), (7, i64 x7_2)] (Mo.and Mo.tt _) (Ow.star (Blk d_0_b [d_0.b.val, i64 d_0.at_, d_0.err.val] 239) (Ow.emp))
 refine Zq (Zr ?_)
 refine VL.q (q_lss rfl rfl) (by decide) ?_
 refine Zl ?_
 refine Zq ?_
 refine VC.cond_dec rfl (fun h8 => ?_) (fun h8 => ?_)
 ·
  replace hS := it_t h8 hS
  refine Zk ?_
  refine Zq (Zb (Zq (Zr ?_)))
  refine Zm ?_
  refine Za ?_
  refine Zl ?_
  refine Zq (Zq ?_)
  refine VC.draw ((List.range 12).map fun k => (k, true)) mixed (by kernel_rfl) (by kernel_rfl) (by kernel_rfl) ?_
  refine VD.q rfl (q_move rfl) (by decide) ?_
  refine VD.q rfl (q_nilCheck rfl) (by decide) ?_
  refine VD.q rfl (q_field gfa239_1 rfl) (by decide) ?_
  refine VD.q rfl (q_fe gone3 rfl rfl) (by decide) ?_
  refine VD.q rfl (q_move rfl) (by decide) ?_
  obtain ⟨b15, hS⟩ := gd_s hS
  refine VD.q rfl (q_add rfl rfl b15) (by decide) ?_
  refine VD.q rfl (q_move rfl) (by decide) ?_
  refine VD.q rfl (q_nilCheck rfl) (by decide) ?_
  refine VD.q rfl (q_field gfa239_0 rfl) (by decide) ?_
  refine VD.q rfl (q_fe gone27 rfl rfl) (by decide) ?_
  refine VD.q rfl (q_ln (s := d_0.b) Tryz.underlying27 rfl) (by decide) ?_
  refine VD.q rfl (q_geq rfl rfl) (by decide) ?_
  refine VD.to (fun _ _ h => h) ?_
  refine VC.keep (ρ' := [(0, ptr d_0_b 0), (4, .int .u64 v4_1), (7, i64 x7_2), (5, i64 x7_2), (21, .bool (decide ((d_0.b.l.length : Int) ≤ (d_0.at_ + x7_2))))]) [0, 4, 7, 5, 21] rfl ?_
  refine VC.cond_dec rfl (fun h21 => ?_) (fun h21 => ?_)
  ·
   replace hS := it_t h21 hS
   refine Zq (Zr ?_)
   refine Za ?_
   refine Za ?_
   refine Zl ?_
   replace hS := up2 hS hK1
   cases hS
   exact VC.ret (fin2 (.inr rfl) rfl rfl rfl (0, 3, ⟨d_0.b, d_0.at_, d_0.err⟩) rfl rfl (by (try dsimp only); exact InM.out) (by (try dsimp only); exact EntO.out))
  replace hS := it_f h21 hS
  refine Zk ?_
  refine Zq ?_
  refine VC.draw ((List.range 13).map fun k => (k, true)) mixed (by kernel_rfl) (by kernel_rfl) (by kernel_rfl) ?_
  refine VD.q rfl (q_move rfl) (by decide) ?_
  refine VD.q rfl (q_nilCheck rfl) (by decide) ?_
  refine VD.q rfl (q_field gfa239_0 rfl) (by decide) ?_
  refine VD.q rfl (q_fe gone27 rfl rfl) (by decide) ?_
  refine VD.q rfl (q_move rfl) (by decide) ?_
  refine VD.q rfl (q_nilCheck rfl) (by decide) ?_
  refine VD.q rfl (q_field gfa239_1 rfl) (by decide) ?_
  refine VD.q rfl (q_fe gone3 rfl rfl) (by decide) ?_
  refine VD.q rfl (q_move rfl) (by decide) ?_
  obtain ⟨b31, hS⟩ := gd_s hS
  refine VD.q rfl (q_add rfl rfl b31) (by decide) ?_
  obtain ⟨z32_3, nz32_3, hz32_3, hS⟩ := at_s hS
  refine VD.q rfl (q_ixm (s := d_0.b) Tryz.underlying27 gsz5 rfl rfl nz32_3 (lt_of_get nz32_3 hz32_3)) (by decide) ?_
  refine VD.q rfl (q_el (s := d_0.b) gone5 rfl hz32_3 rfl) (by decide) ?_
  refine VD.q rfl (q_assign rfl) (by decide) ?_
  refine VD.to (fun _ _ h => h) ?_
  refine VC.keep (ρ' := [(0, ptr d_0_b 0), (4, .int .u64 v4_1), (7, i64 x7_2), (5, i64 x7_2), (6, .int .u8 (z32_3.toNat : Int))]) [0, 4, 7, 5, 6] rfl ?_
  refine VC.cutJ (S := Unit) (fun (_ : Unit) => ()) (fun (_ : Unit) => [(0, ptr d_0_b 0), (4, .int .u64 v4_1), (5, i64 x7_2), (6, .int .u8 (z32_3.toNat : Int)), (7, i64 x7_2)]) (fun (_ : Unit) => Mo.tt) (fun (_ : Unit) => Ow.star (Blk d_0_b [d_0.b.val, i64 d_0.at_, d_0.err.val] 239) (Ow.emp)) hS ?_ ?_
  ·
   clear hS
   intro k4 hS
   refine Zq (Zr ?_)
   refine Zm ?_
   refine VL.q (q_eql rfl rfl) (by decide) ?_
   refine Zm ?_
   refine VL.split_dec 36 rfl (fun h36 => ?_) (fun h36 => ?_)
   ·
    replace hS := it_t h36 hS
    refine Zg ?_
    refine VL.gy rfl rfl (q_gtr rfl rfl) (by decide) ?_
    refine Zt ?_
    refine Zm ?_
    refine VL.split_dec 40 rfl (fun h40 => ?_) (fun h40 => ?_)
    ·
     replace hS := it_t h40 hS
     refine VL.runs 7 [(47, some true)] (by kernel_rfl) ?_
     refine Zl ?_
     refine VC.keep (ρ' := [(0, ptr d_0_b 0), (4, .int .u64 v4_1), (7, i64 x7_2), (5, i64 x7_2), (6, .int .u8 (z32_3.toNat : Int)), (47, .bool true)]) [0, 4, 7, 5, 6, 47] rfl ?_
     refine VC.cond_t rfl ?_
     replace hS := up2 hS hK1
     refine Zx ?_
     refine Zq (Zr ?_)
     refine Za ?_
     refine Za ?_
     refine Zl ?_
     cases hS
     exact VC.ret (fin2 (.inr rfl) rfl rfl rfl (0, 2, ⟨d_0.b, d_0.at_, d_0.err⟩) rfl rfl (by (try dsimp only); exact InM.out) (by (try dsimp only); exact EntO.out))
    replace hS := it_f h40 hS
    refine Zg ?_
    refine VL.gy rfl rfl (q_gtr rfl rfl) (by decide) ?_
    refine Zg ?_
    refine VL.split_dec 43 rfl (fun h43 => ?_) (fun h43 => ?_)
    ·
     replace hS := it_t h43 hS
     refine Zg ?_
     refine VL.gy rfl rfl (q_eql rfl rfl) (by decide) ?_
     refine VL.gy rfl rfl (q_pick_t rfl rfl) (by decide) ?_
     refine Zf ?_
     refine Zl ?_
     refine VC.keep (ρ' := [(0, ptr d_0_b 0), (4, .int .u64 v4_1), (7, i64 x7_2), (5, i64 x7_2), (6, .int .u8 (z32_3.toNat : Int)), (47, .bool (decide ((z32_3.toNat : Int) = 0)))]) [0, 4, 7, 5, 6, 47] rfl ?_
     refine VC.cond_dec rfl (fun h47 => ?_) (fun h47 => ?_)
     ·
      replace hS := it_t h47 hS
      replace hS := up2 hS hK1
      refine Zx ?_
      refine Zq (Zr ?_)
      refine Za ?_
      refine Za ?_
      refine Zl ?_
      cases hS
      exact VC.ret (fin2 (.inr rfl) rfl rfl rfl (0, 2, ⟨d_0.b, d_0.at_, d_0.err⟩) rfl rfl (by (try dsimp only); exact InM.out) (by (try dsimp only); exact EntO.out))
     replace hS := it_f h47 hS
     refine VC.skip_mt () [0, 4, 5, 6, 7] (fun _ _ h => h) hS rfl
    replace hS := it_f h43 hS
    refine Zn ?_
    refine Zn ?_
    refine VL.gy rfl rfl (q_pick_f rfl rfl) (by decide) ?_
    refine Zf ?_
    refine Zl ?_
    refine VC.keep (ρ' := [(0, ptr d_0_b 0), (4, .int .u64 v4_1), (7, i64 x7_2), (5, i64 x7_2), (6, .int .u8 (z32_3.toNat : Int)), (47, .bool false)]) [0, 4, 7, 5, 6, 47] rfl ?_
    refine VC.cond_f rfl ?_
    refine VC.skip_mt () [0, 4, 5, 6, 7] (fun _ _ h => h) hS rfl
   replace hS := it_f h36 hS
   refine VL.runs 4 [(40, some false)] (by kernel_rfl) ?_
   refine Zg ?_
   refine VL.gy rfl rfl (q_gtr rfl rfl) (by decide) ?_
   refine Zg ?_
   refine VL.split_dec 43 rfl (fun h43 => ?_) (fun h43 => ?_)
   ·
    replace hS := it_t h43 hS
    refine Zg ?_
    refine VL.gy rfl rfl (q_eql rfl rfl) (by decide) ?_
    refine VL.gy rfl rfl (q_pick_t rfl rfl) (by decide) ?_
    refine Zf ?_
    refine Zl ?_
    refine VC.keep (ρ' := [(0, ptr d_0_b 0), (4, .int .u64 v4_1), (7, i64 x7_2), (5, i64 x7_2), (6, .int .u8 (z32_3.toNat : Int)), (47, .bool (decide ((z32_3.toNat : Int) = 0)))]) [0, 4, 7, 5, 6, 47] rfl ?_
    refine VC.cond_dec rfl (fun h47 => ?_) (fun h47 => ?_)
    ·
     replace hS := it_t h47 hS
     replace hS := up2 hS hK1
     refine Zx ?_
     refine Zq (Zr ?_)
     refine Za ?_
     refine Za ?_
     refine Zl ?_
     cases hS
     exact VC.ret (fin2 (.inr rfl) rfl rfl rfl (0, 2, ⟨d_0.b, d_0.at_, d_0.err⟩) rfl rfl (by (try dsimp only); exact InM.out) (by (try dsimp only); exact EntO.out))
    replace hS := it_f h47 hS
    refine VC.skip_mt () [0, 4, 5, 6, 7] (fun _ _ h => h) hS rfl
   replace hS := it_f h43 hS
   refine Zn ?_
   refine Zn ?_
   refine VL.gy rfl rfl (q_pick_f rfl rfl) (by decide) ?_
   refine Zf ?_
   refine Zl ?_
   refine VC.keep (ρ' := [(0, ptr d_0_b 0), (4, .int .u64 v4_1), (7, i64 x7_2), (5, i64 x7_2), (6, .int .u8 (z32_3.toNat : Int)), (47, .bool false)]) [0, 4, 7, 5, 6, 47] rfl ?_
   refine VC.cond_f rfl ?_
   refine VC.skip_mt () [0, 4, 5, 6, 7] (fun _ _ h => h) hS rfl
  clear hS
  rintro _ hS
  show VC _ _ _ _ _ [(0, ptr d_0_b 0), (4, .int .u64 v4_1), (5, i64 x7_2), (6, .int .u8 (z32_3.toNat : Int)), (7, i64 x7_2)] (Mo.and Mo.tt _) (Ow.star (Blk d_0_b [d_0.b.val, i64 d_0.at_, d_0.err.val] 239) (Ow.emp))
  refine Zq (Zr ?_)
  refine Zm ?_
  refine Zm ?_
  refine VL.q (q_and rfl rfl) (by decide) ?_
  refine VL.q (q_convW Tryz.underlying5 Tryz.underlying231 rfl) (by decide) ?_
  refine Zm ?_
  obtain ⟨b53, hS⟩ := gd_s hS
  refine VL.q (q_mul rfl rfl b53) (by decide) ?_
  obtain ⟨b54, hS⟩ := gd_s hS
  refine VL.q (q_shl rfl rfl b54) (by decide) ?_
  refine VL.q (q_or rfl rfl) (by decide) ?_
  refine Za ?_
  refine Zl ?_
  refine VC.keep (ρ' := [(0, ptr d_0_b 0), (4, .int .u64 (bOr .u64 v4_1 (sHl .u64 (IntKind.wrap .u64 (bAnd .u8 (z32_3.toNat : Int) 127)) (7 * x7_2)))), (5, i64 x7_2), (6, .int .u8 (z32_3.toNat : Int)), (7, i64 x7_2)]) [0, 4, 5, 6, 7] rfl ?_
  refine Zq (Zr ?_)
  refine Zm ?_
  refine VL.q (q_lss rfl rfl) (by decide) ?_
  refine Zl ?_
  refine VC.cond_dec rfl (fun h57 => ?_) (fun h57 => ?_)
  ·
   replace hS := it_t h57 hS
   refine Zq (Zr ?_)
   refine Zm ?_
   refine VL.q (q_nilCheck rfl) (by decide) ?_
   refine VL.q (q_field gfa239_1 rfl) (by decide) ?_
   refine VL.q (q_fe gone3 rfl rfl) (by decide) ?_
   refine Zm ?_
   obtain ⟨b63, hS⟩ := gd_s hS
   refine VL.q (q_add rfl rfl b63) (by decide) ?_
   obtain ⟨b64, hS⟩ := gd_s hS
   refine VL.q (q_add rfl rfl b64) (by decide) ?_
   refine VL.q (q_nilCheck rfl) (by decide) ?_
   refine VL.q (q_field gfa239_1 rfl) (by decide) ?_
   refine VL.store (vc := [i64 (d_0.at_ + (x7_2 + 1))]) (cs' := [d_0.b.val, i64 (d_0.at_ + (x7_2 + 1)), d_0.err.val]) rfl rfl rfl gsz3 rfl rfl (Nat.le_of_ble_eq_true rfl) rfl ?_
   refine Zl ?_
   refine VC.keep (ρ' := [(4, .int .u64 (bOr .u64 v4_1 (sHl .u64 (IntKind.wrap .u64 (bAnd .u8 (z32_3.toNat : Int) 127)) (7 * x7_2))))]) [4] rfl ?_
   refine Zq (Zr ?_)
   refine Zm ?_
   refine Za ?_
   refine Za ?_
   refine Zl ?_
   replace hS := up2 hS hK1
   cases hS
   exact VC.ret (fin2 (.inr rfl) rfl rfl rfl ((bOr .u64 v4_1 (sHl .u64 (IntKind.wrap .u64 (bAnd .u8 (z32_3.toNat : Int) 127)) (7 * x7_2))), 0, ⟨d_0.b, (d_0.at_ + (x7_2 + 1)), d_0.err⟩) rfl rfl (by (try dsimp only); exact InM.out) (by (try dsimp only); exact EntO.out))
  replace hS := it_f h57 hS
  refine Zk ?_
  refine Zr ?_
  obtain ⟨b68, hS⟩ := gd_s hS
  refine VL.q (q_add rfl rfl b68) (by decide) ?_
  refine Zm ?_
  refine VL.rnd ((bOr .u64 v4_1 (sHl .u64 (IntKind.wrap .u64 (bAnd .u8 (z32_3.toNat : Int) 127)) (7 * x7_2))), (x7_2 + 1)) [0, 4, 7] (fun _ _ h => h) (go2 hS hK1) rfl
 replace hS := it_f h8 hS
 replace hS := up2 hS hK1
 refine Zx ?_
 refine Zq (Zr ?_)
 refine Za ?_
 refine Za ?_
 refine Zl ?_
 cases hS
 exact VC.ret (fin2 (.inr rfl) rfl rfl rfl (0, 2, ⟨d_0.b, d_0.at_, d_0.err⟩) rfl rfl (by (try dsimp only); exact InM.out) (by (try dsimp only); exact EntO.out))
theorem codec_Dec_fail_ct (d_0_b : Nat) (d_0 : CodecDec) (at_1 : Int) (e_2 : Int) {r : CodecDecP} (hS : Sh.codec_Dec_fail d_0.pl at_1 e_2 = some r) :
 Ct Tryz.prog 167 [ptr d_0_b 0, i64 at_1, i64 e_2] (d_0.b.ok.and d_0.err.ok) (Blk d_0_b [d_0.b.val, i64 d_0.at_, d_0.err.val] 239) (X := CodecDec) (fun x => .tuple #[]) (fun x => r = x.pl) (fun x => (x.b.ok.and x.err.ok)) (fun x => Blk d_0_b [x.b.val, i64 x.at_, x.err.val] 239) := by
 refine Ct.of Tryz.func167 rfl (by kernel_rfl) Tryz.ntmps167 (by simp) fun c => ?_
 unfold Sh.codec_Dec_fail at hS
 refine Zr ?_
 refine Zm ?_
 refine Zm ?_
 refine Zm ?_
 refine VL.q (q_mkif Tryz.underlying115 (fun _ h => by cases h) rfl) (by decide) ?_
 refine VL.q (q_build (vs := [(0, str [98, 121, 116, 101]), (1, i64 at_1), (2, (Er.no e_2).val)]) (cs := #[str [98, 121, 116, 101], i64 at_1, (Er.no e_2).val]) rfl (by kernel_rfl)) (by decide) ?_
 refine VL.box (cs := [str [98, 121, 116, 101], i64 at_1, (Er.no e_2).val]) rfl rfl (by decide) fun b11_1 => ?_
 refine VL.shutB b11_1 ?_
 refine VL.q (q_mkif Tryz.underlying114 (fun _ h => by cases h) rfl) (by decide) ?_
 refine VL.q (q_nilCheck rfl) (by decide) ?_
 refine VL.q (q_field gfa239_2 rfl) (by decide) ?_
 refine VL.store (vc := [(Er.fault b11_1 [98, 121, 116, 101] at_1 (Er.no e_2)).val]) (cs' := [d_0.b.val, i64 d_0.at_, (Er.fault b11_1 [98, 121, 116, 101] at_1 (Er.no e_2)).val]) rfl rfl rfl gsz29 rfl rfl (Nat.le_of_ble_eq_true rfl) rfl ?_
 cases hS
 exact VL.nil (fin0 (.inl rfl) rfl ⟨d_0.b, d_0.at_, (Er.fault b11_1 [98, 121, 116, 101] at_1 (Er.no e_2))⟩ rfl rfl (by (try dsimp only); exact InM.out) (by (try dsimp only); exact EntO.out))
theorem codec_Dec_Int_ct (d_0_b : Nat) (d_0 : CodecDec) {r : Int × CodecDecP} (hS : Sh.codec_Dec_Int d_0.pl = some r) :
 Ct Tryz.prog 96 [ptr d_0_b 0] (d_0.b.ok.and d_0.err.ok) (Blk d_0_b [d_0.b.val, i64 d_0.at_, d_0.err.val] 239) (X := Int × CodecDec) (fun x => i64 x.1) (fun x => r = (x.1, x.2.pl)) (fun x => (x.2.b.ok.and x.2.err.ok)) (fun x => Blk d_0_b [x.2.b.val, i64 x.2.at_, x.2.err.val] 239) := by
 refine Ct.of Tryz.func96 rfl (by kernel_rfl) Tryz.ntmps96 (by simp) fun c => ?_
 unfold Sh.codec_Dec_Int at hS
 refine Zq (Zr ?_)
 refine Za ?_
 refine Zl ?_
 refine Zq (Zq (Zr ?_))
 refine Zm ?_
 refine VL.q (q_nilCheck rfl) (by decide) ?_
 refine VL.q (q_field gfa239_2 rfl) (by decide) ?_
 refine VL.q (q_fe gone29 rfl rfl) (by decide) ?_
 refine VL.q (q_erne Tryz.underlying29 rfl) (by decide) ?_
 refine Zl ?_
 refine VC.cond_ndec rfl (fun h10 => ?_) (fun h10 => ?_)
 ·
  replace hS := it_f h10 hS
  refine Zq (Zr ?_)
  refine Za ?_
  refine Zl ?_
  cases hS
  exact VC.ret (fin1 (.inr rfl) rfl rfl (0, ⟨d_0.b, d_0.at_, d_0.err⟩) rfl rfl (by (try dsimp only); exact InM.out) (by (try dsimp only); exact EntO.out))
 replace hS := it_t h10 hS
 refine Zk ?_
 refine Zq (Zr ?_)
 refine Zm ?_
 refine VL.q (q_nilCheck rfl) (by decide) ?_
 refine VL.q (q_field gfa239_1 rfl) (by decide) ?_
 refine VL.q (q_fe gone3 rfl rfl) (by decide) ?_
 refine Za ?_
 refine Zl ?_
 refine VC.keep (ρ' := [(0, ptr d_0_b 0), (3, i64 d_0.at_)]) [0, 3] rfl ?_
 refine Zq (Zr ?_)
 refine Zm ?_
 obtain ⟨y17_1, ey17_1, hS⟩ := bd_s hS
 refine VL.callO (codec_Dec_uint_ct d_0_b d_0 ey17_1) rfl (by decide) ?_
 rintro ⟨q17_1_0, q17_1_1, q17_1_2⟩ rfl
 try dsimp only
 refine Zm ?_
 refine VL.q (q_extract rfl rfl) (by decide) ?_
 refine VL.q (q_extract rfl rfl) (by decide) ?_
 refine Za ?_
 refine Za ?_
 refine Zl ?_
 refine Zq (Zq (Zr ?_))
 refine Zm ?_
 refine VL.q (q_neq rfl rfl) (by decide) ?_
 refine Zl ?_
 refine VC.cond_ndec rfl (fun h21 => ?_) (fun h21 => ?_)
 ·
  replace hS := it_f h21 hS
  refine Zq (Zr ?_)
  refine Zm ?_
  refine Zm ?_
  refine Zm ?_
  obtain ⟨y25_2, ey25_2, hS⟩ := bd_s hS
  refine VL.callO (codec_Dec_fail_ct d_0_b q17_1_2 d_0.at_ q17_1_1 ey25_2) rfl (by decide) ?_
  rintro q25_2_0 rfl
  try dsimp only
  refine Zl ?_
  refine VC.keep (ρ' := []) [] rfl ?_
  refine Zq (Zr ?_)
  refine Za ?_
  refine Zl ?_
  cases hS
  exact VC.ret (fin1 (.inr rfl) rfl rfl (0, ⟨q25_2_0.b, q25_2_0.at_, q25_2_0.err⟩) rfl rfl (by (try dsimp only); exact InM.out) (by (try dsimp only); exact EntO.out))
 replace hS := it_t h21 hS
 refine Zk ?_
 refine VC.keep (ρ' := [(4, .int .u64 q17_1_0)]) [4] rfl ?_
 refine Zq (Zr ?_)
 refine Zm ?_
 refine VL.q (q_shr rfl rfl (by decide)) (by decide) ?_
 refine VL.q (q_convW Tryz.underlying231 Tryz.underlying2 rfl) (by decide) ?_
 refine Zm ?_
 refine VL.q (q_and rfl rfl) (by decide) ?_
 refine VL.q (q_convW Tryz.underlying231 Tryz.underlying2 rfl) (by decide) ?_
 refine VL.q (q_neg rfl) (by decide) ?_
 refine VL.q (q_xor rfl rfl) (by decide) ?_
 refine Za ?_
 refine Zl ?_
 cases hS
 exact VC.ret (fin1 (.inr rfl) rfl rfl ((bXor .i64 (IntKind.wrap .i64 (sHr .u64 q17_1_0 1)) (IntKind.wrap .i64 (0 - (IntKind.wrap .i64 (bAnd .u64 q17_1_0 1))))), ⟨q17_1_2.b, q17_1_2.at_, q17_1_2.err⟩) rfl rfl (by (try dsimp only); exact InM.out) (by (try dsimp only); exact EntO.out))
theorem codec_Dec_Text_ct (d_0_b : Nat) (d_0 : CodecDec) {r : Str × CodecDecP} (hS : Sh.codec_Dec_Text d_0.pl = some r) :
 Ct Tryz.prog 113 [ptr d_0_b 0] (d_0.b.ok.and d_0.err.ok) (Blk d_0_b [d_0.b.val, i64 d_0.at_, d_0.err.val] 239) (X := Str × CodecDec) (fun x => str x.1) (fun x => r = (x.1, x.2.pl)) (fun x => (x.2.b.ok.and x.2.err.ok)) (fun x => Blk d_0_b [x.2.b.val, i64 x.2.at_, x.2.err.val] 239) := by
 refine Ct.of Tryz.func113 rfl (by kernel_rfl) Tryz.ntmps113 (by simp) fun c => ?_
 unfold Sh.codec_Dec_Text at hS
 refine Zq (Zr ?_)
 refine Za ?_
 refine Zl ?_
 refine Zq (Zr ?_)
 refine Zm ?_
 refine VL.q (q_nilCheck rfl) (by decide) ?_
 refine VL.q (q_field gfa239_1 rfl) (by decide) ?_
 refine VL.q (q_fe gone3 rfl rfl) (by decide) ?_
 refine Za ?_
 refine Zl ?_
 refine Zq (Zr ?_)
 refine Zm ?_
 obtain ⟨y11_1, ey11_1, hS⟩ := bd_s hS
 refine VL.callO (codec_Dec_Int_ct d_0_b d_0 ey11_1) rfl (by decide) ?_
 rintro ⟨q11_1_0, q11_1_1⟩ rfl
 try dsimp only
 refine Za ?_
 refine Zl ?_
 refine Zq (Zb (Zq (Zr ?_)))
 refine Zm ?_
 refine VL.q (q_nilCheck rfl) (by decide) ?_
 refine VL.q (q_field gfa239_2 rfl) (by decide) ?_
 refine VL.q (q_fe gone29 rfl rfl) (by decide) ?_
 refine VL.q (q_erne Tryz.underlying29 rfl) (by decide) ?_
 refine Za ?_
 refine Zl ?_
 refine VC.keep (ρ' := [(0, ptr d_0_b 0), (3, i64 d_0.at_), (4, i64 q11_1_0), (12, .bool (!decide (q11_1_1.err.pl.isNil = true)))]) [0, 3, 4, 12] rfl ?_
 refine VC.cond_ndec rfl (fun h12 => ?_) (fun h12 => ?_)
 ·
  replace hS := it_f h12 hS
  refine Zq (Zr ?_)
  refine Za ?_
  refine Zl ?_
  cases hS
  exact VC.ret (fin1 (.inr rfl) rfl rfl ([], ⟨q11_1_1.b, q11_1_1.at_, q11_1_1.err⟩) rfl rfl (by (try dsimp only); exact InM.out) (by (try dsimp only); exact EntO.out))
 replace hS := it_t h12 hS
 refine Zq (Zr ?_)
 refine Zm ?_
 refine VL.q (q_lss rfl rfl) (by decide) ?_
 refine Za ?_
 refine Zl ?_
 refine VC.cond_dec rfl (fun h18 => ?_) (fun h18 => ?_)
 ·
  replace hS := it_t h18 hS
  refine Zq (Zr ?_)
  refine Zm ?_
  refine Zm ?_
  obtain ⟨y23_2, ey23_2, hS⟩ := bd_s hS
  refine VL.callO (codec_Dec_fail_ct d_0_b q11_1_1 d_0.at_ 2 ey23_2) rfl (by decide) ?_
  rintro q23_2_0 rfl
  try dsimp only
  refine Zl ?_
  refine Zq (Zr ?_)
  refine Za ?_
  refine Zl ?_
  refine VC.keep (ρ' := [(2, str [])]) [2] rfl ?_
  cases hS
  exact VC.ret (fin1 (.inr rfl) rfl rfl ([], ⟨q23_2_0.b, q23_2_0.at_, q23_2_0.err⟩) rfl rfl (by (try dsimp only); exact InM.out) (by (try dsimp only); exact EntO.out))
 replace hS := it_f h18 hS
 refine Zq ?_
 refine VC.draw ((List.range 13).map fun k => (k, true)) mixed (by kernel_rfl) (by kernel_rfl) (by kernel_rfl) ?_
 refine VD.q rfl (q_move rfl) (by decide) ?_
 refine VD.q rfl (q_move rfl) (by decide) ?_
 refine VD.q rfl (q_nilCheck rfl) (by decide) ?_
 refine VD.q rfl (q_field gfa239_0 rfl) (by decide) ?_
 refine VD.q rfl (q_fe gone27 rfl rfl) (by decide) ?_
 refine VD.q rfl (q_ln (s := q11_1_1.b) Tryz.underlying27 rfl) (by decide) ?_
 refine VD.q rfl (q_move rfl) (by decide) ?_
 refine VD.q rfl (q_nilCheck rfl) (by decide) ?_
 refine VD.q rfl (q_field gfa239_1 rfl) (by decide) ?_
 refine VD.q rfl (q_fe gone3 rfl rfl) (by decide) ?_
 obtain ⟨b35, hS⟩ := gd_s hS
 refine VD.q rfl (q_sub rfl rfl b35) (by decide) ?_
 refine VD.q rfl (q_gtr rfl rfl) (by decide) ?_
 refine VD.q rfl (q_assign rfl) (by decide) ?_
 refine VD.to (fun _ _ h => h) ?_
 refine VC.keep (ρ' := [(0, ptr d_0_b 0), (3, i64 d_0.at_), (4, i64 q11_1_0), (24, .bool (decide (((q11_1_1.b.l.length : Int) - q11_1_1.at_) < q11_1_0)))]) [0, 3, 4, 24] rfl ?_
 refine VC.cond_dec rfl (fun h24 => ?_) (fun h24 => ?_)
 ·
  replace hS := it_t h24 hS
  refine Zq (Zr ?_)
  refine Zm ?_
  refine Zm ?_
  obtain ⟨y39_3, ey39_3, hS⟩ := bd_s hS
  refine VL.callO (codec_Dec_fail_ct d_0_b q11_1_1 d_0.at_ 3 ey39_3) rfl (by decide) ?_
  rintro q39_3_0 rfl
  try dsimp only
  refine Zl ?_
  refine Zq (Zr ?_)
  refine Za ?_
  refine Zl ?_
  cases hS
  exact VC.ret (fin1 (.inr rfl) rfl rfl ([], ⟨q39_3_0.b, q39_3_0.at_, q39_3_0.err⟩) rfl rfl (by (try dsimp only); exact InM.out) (by (try dsimp only); exact EntO.out))
 replace hS := it_f h24 hS
 refine Zk ?_
 refine Zq ?_
 refine VC.draw ((List.range 17).map fun k => (k, true)) mixed (by kernel_rfl) (by kernel_rfl) (by kernel_rfl) ?_
 refine VD.q rfl (q_move rfl) (by decide) ?_
 refine VD.q rfl (q_nilCheck rfl) (by decide) ?_
 refine VD.q rfl (q_field gfa239_0 rfl) (by decide) ?_
 refine VD.q rfl (q_fe gone27 rfl rfl) (by decide) ?_
 refine VD.q rfl (q_move rfl) (by decide) ?_
 refine VD.q rfl (q_nilCheck rfl) (by decide) ?_
 refine VD.q rfl (q_field gfa239_1 rfl) (by decide) ?_
 refine VD.q rfl (q_fe gone3 rfl rfl) (by decide) ?_
 refine VD.q rfl (q_move rfl) (by decide) ?_
 refine VD.q rfl (q_nilCheck rfl) (by decide) ?_
 refine VD.q rfl (q_field gfa239_1 rfl) (by decide) ?_
 refine VD.q rfl (q_fe gone3 rfl rfl) (by decide) ?_
 refine VD.q rfl (q_move rfl) (by decide) ?_
 obtain ⟨b53, hS⟩ := gd_s hS
 refine VD.q rfl (q_add rfl rfl b53) (by decide) ?_
 obtain ⟨b54, hS⟩ := gd_s hS
 refine VD.smidK rfl Tryz.underlying27 gsz5 rfl rfl rfl b54.1 b54.2.1 (b54.2.2) (by decide) fun s54_4 hs54_4 Qs54_4 => ?_
 replace hS := lt_to hs54_4 hS
 refine VD.q rfl (q_b2s (s := s54_4) Tryz.underlying27 Tryz.underlying5 Tryz.underlying9 rfl) (by decide) ?_
 refine VD.q rfl (q_assign rfl) (by decide) ?_
 refine VD.to (fun _ _ h => h) ?_
 refine VC.keep (ρ' := [(0, ptr d_0_b 0), (4, i64 q11_1_0), (5, str s54_4.l)]) [0, 4, 5] rfl ?_
 refine Zq (Zr ?_)
 refine Zm ?_
 refine VL.q (q_nilCheck rfl) (by decide) ?_
 refine VL.q (q_field gfa239_1 rfl) (by decide) ?_
 refine VL.q (q_fe gone3 rfl rfl) (by decide) ?_
 refine Zm ?_
 obtain ⟨b61, hS⟩ := gd_s hS
 refine VL.q (q_add rfl rfl b61) (by decide) ?_
 refine VL.q (q_nilCheck rfl) (by decide) ?_
 refine VL.q (q_field gfa239_1 rfl) (by decide) ?_
 refine VL.store (vc := [i64 (q11_1_1.at_ + q11_1_0)]) (cs' := [q11_1_1.b.val, i64 (q11_1_1.at_ + q11_1_0), q11_1_1.err.val]) rfl rfl rfl gsz3 rfl rfl (Nat.le_of_ble_eq_true rfl) rfl ?_
 refine Zl ?_
 refine VC.keep (ρ' := [(5, str s54_4.l)]) [5] rfl ?_
 refine Zq (Zr ?_)
 refine Zm ?_
 refine Za ?_
 refine Zl ?_
 cases hS
 exact VC.ret (fin1 (.inr rfl) rfl rfl (s54_4.l, ⟨q11_1_1.b, (q11_1_1.at_ + q11_1_0), q11_1_1.err⟩) rfl rfl (by (try dsimp only); exact InM.out) (by (try dsimp only); exact EntO.out))
theorem bytes_Equal_ct (a_0 : Sv UInt8) (b_1 : Sv UInt8) {r : Bool} (hS : Sh.bytes_Equal a_0.l b_1.l = some r) :
 Ct Tryz.prog 114 [a_0.val, b_1.val] (a_0.ok.and b_1.ok) (Ow.emp) (X := Unit) (fun _ => .bool r) (fun _ => True) (fun _ => Mo.tt) (fun _ => Ow.emp) := by
 refine Ct.of Tryz.func114 rfl (by kernel_rfl) Tryz.ntmps114 (by simp) fun c => ?_
 unfold Sh.bytes_Equal at hS
 refine Zq (Zr ?_)
 refine Za ?_
 refine Zl ?_
 refine Zq (Zr ?_)
 refine Zm ?_
 refine VL.q (q_b2s (s := a_0) Tryz.underlying27 Tryz.underlying5 Tryz.underlying9 rfl) (by decide) ?_
 refine Zm ?_
 refine VL.q (q_b2s (s := b_1) Tryz.underlying27 Tryz.underlying5 Tryz.underlying9 rfl) (by decide) ?_
 refine Zs ?_
 refine Za ?_
 refine Zl ?_
 cases hS
 exact Ze
theorem seal_Open_ct (b_0 : Sv UInt8) {r : List UInt8 × Err} (hS : Sh.seal_Open b_0.l = some r) :
 Ct Tryz.prog 94 [b_0.val] b_0.ok (Ow.emp) (X := Sv UInt8 × Er) (fun x => .tuple #[x.1.val, x.2.val]) (fun x => r = (x.1.l, x.2.pl)) (fun x => (x.1.ok.and x.2.ok)) (fun x => Ow.emp) := by
 refine Ct.of Tryz.func94 rfl (by kernel_rfl) Tryz.ntmps94 (by simp) fun c => ?_
 unfold Sh.seal_Open at hS
 refine Zq (Zr ?_)
 refine Za ?_
 refine Za ?_
 refine Zl ?_
 refine Zq (Zq (Zr ?_))
 refine Zm ?_
 refine VL.q (q_ln (s := b_0) Tryz.underlying27 rfl) (by decide) ?_
 refine VL.q (q_lss rfl rfl) (by decide) ?_
 refine Zl ?_
 refine VC.cond_dec rfl (fun h7 => ?_) (fun h7 => ?_)
 ·
  replace hS := it_t h7 hS
  refine Zq (Zr ?_)
  refine Zm ?_
  refine VL.q (q_ln (s := b_0) Tryz.underlying27 rfl) (by decide) ?_
  refine VL.q (q_mkif Tryz.underlying115 (fun _ h => by cases h) rfl) (by decide) ?_
  refine VL.q (q_build (vs := [(0, str [115, 117, 109]), (1, i64 (b_0.l.length : Int)), (2, (Er.no 3).val)]) (cs := #[str [115, 117, 109], i64 (b_0.l.length : Int), (Er.no 3).val]) rfl (by kernel_rfl)) (by decide) ?_
  refine VL.box (cs := [str [115, 117, 109], i64 (b_0.l.length : Int), (Er.no 3).val]) rfl rfl (by decide) fun b12_1 => ?_
  refine VL.shutB b12_1 ?_
  refine VL.q (q_mkif Tryz.underlying114 (fun _ h => by cases h) rfl) (by decide) ?_
  refine Za ?_
  refine Za ?_
  refine Zl ?_
  refine VC.keep (ρ' := [(2, .slice none 0 0), (3, (Er.fault b12_1 [115, 117, 109] (b_0.l.length : Int) (Er.no 3)).val)]) [2, 3] rfl ?_
  cases hS
  exact VC.ret (fin2 (.inr rfl) rfl rfl rfl (⟨none, 0, []⟩, (Er.fault b12_1 [115, 117, 109] (b_0.l.length : Int) (Er.no 3))) rfl rfl (by (try dsimp only); exact InM.out) (fun _ _ => trivial))
 replace hS := it_f h7 hS
 refine Zk ?_
 refine Zq (Zr ?_)
 refine Zm ?_
 refine Zm ?_
 refine VL.q (q_ln (s := b_0) Tryz.underlying27 rfl) (by decide) ?_
 obtain ⟨b17, hS⟩ := gd_s hS
 refine VL.q (q_sub rfl rfl b17) (by decide) ?_
 obtain ⟨b18, hS⟩ := gd_s hS
 refine VL.sto Tryz.underlying27 gsz5 rfl rfl b18.1 (b18.2) (by decide) fun s18_2 hs18_2 => ?_
 replace hS := lt_to hs18_2 hS
 refine Za ?_
 refine Zl ?_
 refine VC.keep (ρ' := [(0, b_0.val), (4, s18_2.val)]) [0, 4] rfl ?_
 refine Zq (Zq (Zr ?_))
 refine Zm ?_
 obtain ⟨y20_4, ey20_4, hS⟩ := bd_s hS
 refine VL.callO (seal_Put_ct s18_2 ey20_4) rfl (by decide) ?_
 rintro q20_4_0 rfl
 try dsimp only
 refine Zm ?_
 obtain ⟨y22_5, ey22_5, hS⟩ := bd_s hS
 refine VL.q (q_callR (bytes_Equal_ct q20_4_0 b_0 ey22_5) rfl (fun _ _ => rfl)) (by decide) ?_
 refine VL.q (q_not rfl) (by decide) ?_
 refine Zl ?_
 refine VC.cond rfl (fun h23 => ?_) (fun h23 => ?_)
 ·
  replace hS := it_t h23 hS
  refine Zq (Zr ?_)
  refine Zm ?_
  refine VL.q (q_ln (s := b_0) Tryz.underlying27 rfl) (by decide) ?_
  refine VL.q (q_mkif Tryz.underlying115 (fun _ h => by cases h) rfl) (by decide) ?_
  refine VL.q (q_build (vs := [(0, str [115, 117, 109]), (1, i64 (b_0.l.length : Int)), (2, (Er.no 12).val)]) (cs := #[str [115, 117, 109], i64 (b_0.l.length : Int), (Er.no 12).val]) rfl (by kernel_rfl)) (by decide) ?_
  refine VL.box (cs := [str [115, 117, 109], i64 (b_0.l.length : Int), (Er.no 12).val]) rfl rfl (by decide) fun b28_6 => ?_
  refine VL.shutB b28_6 ?_
  refine VL.q (q_mkif Tryz.underlying114 (fun _ h => by cases h) rfl) (by decide) ?_
  refine Za ?_
  refine Za ?_
  refine Zl ?_
  refine VC.keep (ρ' := [(2, .slice none 0 0), (3, (Er.fault b28_6 [115, 117, 109] (b_0.l.length : Int) (Er.no 12)).val)]) [2, 3] rfl ?_
  cases hS
  exact VC.ret (fin2 (.inr rfl) rfl rfl rfl (⟨none, 0, []⟩, (Er.fault b28_6 [115, 117, 109] (b_0.l.length : Int) (Er.no 12))) rfl rfl (by (try dsimp only); exact InM.out) (fun _ _ => trivial))
 replace hS := it_b h23 hS
 refine Zk ?_
 refine Zq (Zr ?_)
 refine Zm ?_
 obtain ⟨y31_7, ey31_7, hS⟩ := bd_s hS
 refine VL.callO (slices_Clone_byte_byte_ct s18_2 ey31_7) rfl (by decide) ?_
 rintro q31_7_0 rfl
 try dsimp only
 refine VL.shut q31_7_0 5 (fun _ _ _ _ => trivial) ?_
 obtain ⟨y32_8, ey32_8, hS⟩ := bd_s hS
 refine VL.callF (slices_Clip_byte_byte_ct q31_7_0 ey32_8) rfl (by decide) ?_
 rintro q32_8_0 rfl
 try dsimp only
 refine Za ?_
 refine Za ?_
 refine Zl ?_
 refine VC.keep (ρ' := [(2, q32_8_0.val), (3, .nilIface)]) [2, 3] rfl ?_
 cases hS
 exact VC.ret (fin2 (.inr rfl) rfl rfl rfl (q32_8_0, .nil) rfl rfl (by (try dsimp only); exact InM.out) (fun _ _ => trivial))
theorem object_reader_many_ct (r_0_b : Nat) (r_0 : ObjectReader) (r_0_dec_b : Nat) (r_0_dec : CodecDec) {r : Int × CodecDecP × ObjectReader} (hS : Sh.object_reader_many r_0 r_0_dec.pl = some r) :
 Ct Tryz.prog 255 [ptr r_0_b 0] (r_0_dec.b.ok.and r_0_dec.err.ok) (Ow.star (Blk r_0_dec_b [r_0_dec.b.val, i64 r_0_dec.at_, r_0_dec.err.val] 239) (Blk r_0_b [ptr r_0_dec_b 0, .bool r_0.bad] 248)) (X := Int × CodecDec × ObjectReader) (fun x => i64 x.1) (fun x => r = (x.1, x.2.1.pl, x.2.2)) (fun x => (x.2.1.b.ok.and x.2.1.err.ok)) (fun x => Ow.star (Blk r_0_dec_b [x.2.1.b.val, i64 x.2.1.at_, x.2.1.err.val] 239) (Blk r_0_b [ptr r_0_dec_b 0, .bool x.2.2.bad] 248)) := by
 refine Ct.of Tryz.func255 rfl (by kernel_rfl) Tryz.ntmps255 (by simp) fun c => ?_
 unfold Sh.object_reader_many at hS
 refine Zq (Zr ?_)
 refine Za ?_
 refine Zl ?_
 refine Zq (Zr ?_)
 refine Zm ?_
 refine VL.q (q_nilCheck rfl) (by decide) ?_
 refine VL.q (q_field gfa248_0 rfl) (by decide) ?_
 refine VL.q (q_fe gone163 rfl rfl) (by decide) ?_
 obtain ⟨y8_1, ey8_1, hS⟩ := bd_s hS
 refine VL.callO (codec_Dec_Int_ct r_0_dec_b r_0_dec ey8_1) rfl (by decide) ?_
 rintro ⟨q8_1_0, q8_1_1⟩ rfl
 try dsimp only
 refine Za ?_
 refine Zl ?_
 refine Zq ?_
 refine VC.cutJ (S := Bool) (fun (x14_2 : Bool) => x14_2) (fun (x14_2 : Bool) => [(0, ptr r_0_b 0), (3, i64 q8_1_0), (14, .bool x14_2)]) (fun (x14_2 : Bool) => Mo.tt) (fun (x14_2 : Bool) => Ow.star (Blk r_0_dec_b [q8_1_1.b.val, i64 q8_1_1.at_, q8_1_1.err.val] 239) (Ow.star (Blk r_0_b [ptr r_0_dec_b 0, .bool r_0.bad] 248) (Ow.emp))) hS ?_ ?_
 ·
  clear hS
  intro k3 hS
  refine Zr ?_
  refine Zm ?_
  refine VL.q (q_lss rfl rfl) (by decide) ?_
  refine Zm ?_
  refine VL.split_dec 11 rfl (fun h11 => ?_) (fun h11 => ?_)
  ·
   replace hS := it_t h11 hS
   refine VL.runs 3 [(14, some true)] (by kernel_rfl) ?_
   refine VL.mt true [0, 3, 14] (fun _ _ h => h) hS rfl
  replace hS := it_f h11 hS
  refine Zg ?_
  refine VL.gy rfl rfl (q_gtr rfl rfl) (by decide) ?_
  refine Zf ?_
  refine VL.mt (decide (64 < q8_1_0)) [0, 3, 14] (fun _ _ h => h) hS rfl
 clear hS
 rintro x14_2 hS
 show VC _ _ _ _ _ [(0, ptr r_0_b 0), (3, i64 q8_1_0), (14, .bool x14_2)] (Mo.and Mo.tt _) (Ow.star (Blk r_0_dec_b [q8_1_1.b.val, i64 q8_1_1.at_, q8_1_1.err.val] 239) (Ow.star (Blk r_0_b [ptr r_0_dec_b 0, .bool r_0.bad] 248) (Ow.emp)))
 refine VC.cond rfl (fun h14 => ?_) (fun h14 => ?_)
 ·
  replace hS := it_t h14 hS
  refine Zq (Zr ?_)
  refine Zm ?_
  refine VL.q (q_nilCheck rfl) (by decide) ?_
  refine VL.q (q_field gfa248_1 rfl) (by decide) ?_
  refine VL.store (vc := [.bool true]) (cs' := [ptr r_0_dec_b 0, .bool true]) rfl rfl rfl gsz4 rfl rfl (Nat.le_of_ble_eq_true rfl) rfl ?_
  refine Zl ?_
  refine Zq (Zr ?_)
  refine Za ?_
  refine Zl ?_
  cases hS
  exact VC.ret (fin1 (.inr rfl) rfl rfl (0, ⟨q8_1_1.b, q8_1_1.at_, q8_1_1.err⟩, ⟨true⟩) rfl rfl (by (try dsimp only); exact InM.out) (by (try dsimp only); exact EntO.out))
 replace hS := it_b h14 hS
 refine Zk ?_
 refine Zq (Zr ?_)
 refine Zm ?_
 refine Za ?_
 refine Zl ?_
 cases hS
 exact VC.ret (fin1 (.inr rfl) rfl rfl (q8_1_0, ⟨q8_1_1.b, q8_1_1.at_, q8_1_1.err⟩, ⟨r_0.bad⟩) rfl rfl (by (try dsimp only); exact InM.out) (by (try dsimp only); exact EntO.out))
theorem object_reader_items_ct (r_0_b : Nat) (r_0 : ObjectReader) (r_0_dec_b : Nat) (r_0_dec : CodecDec) {r : List ObjectItem × CodecDecP × ObjectReader} (hS : Sh.object_reader_items r_0 r_0_dec.pl = some r) :
 Ct Tryz.prog 217 [ptr r_0_b 0] (r_0_dec.b.ok.and r_0_dec.err.ok) (Ow.star (Blk r_0_dec_b [r_0_dec.b.val, i64 r_0_dec.at_, r_0_dec.err.val] 239) (Blk r_0_b [ptr r_0_dec_b 0, .bool r_0.bad] 248)) (X := Sv ObjectItem × CodecDec × ObjectReader) (fun x => x.1.val) (fun x => r = (x.1.l, x.2.1.pl, x.2.2)) (fun x => (x.1.ok.and (x.2.1.b.ok.and x.2.1.err.ok))) (fun x => Ow.star (Blk r_0_dec_b [x.2.1.b.val, i64 x.2.1.at_, x.2.1.err.val] 239) (Blk r_0_b [ptr r_0_dec_b 0, .bool x.2.2.bad] 248)) := by
 refine Ct.of Tryz.func217 rfl (by kernel_rfl) Tryz.ntmps217 (by simp) fun c => ?_
 unfold Sh.object_reader_items at hS
 refine Zq (Zr ?_)
 refine Za ?_
 refine Zl ?_
 refine Zq (Zr ?_)
 refine Za ?_
 refine Zl ?_
 refine Zq (Zq (Zr ?_))
 refine Zm ?_
 obtain ⟨y5_1, ey5_1, hS⟩ := bd_s hS
 refine VL.callO (object_reader_many_ct r_0_b r_0 r_0_dec_b r_0_dec ey5_1) rfl (by decide) ?_
 rintro ⟨q5_1_0, q5_1_1, q5_1_2⟩ rfl
 try dsimp only
 refine Zm ?_
 refine Zl ?_
 refine Zb ?_
 refine VC.nilO (⟨none, 0, []⟩ : Sv ObjectItem) 96 ⟨rfl, rfl⟩ ?_
 refine VC.iter (S := Sv ObjectItem × Int × Sv UInt8 × Int × Er) (fun sg => (sg.1.l, sg.2.1, sg.2.2.1.l, sg.2.2.2.1, sg.2.2.2.2.pl)) (fun sg => [(0, ptr r_0_b 0), (3, sg.1.val), (5, i64 q5_1_0), (6, i64 sg.2.1)]) (fun sg => (sg.2.2.1.ok.and sg.2.2.2.2.ok)) (fun sg => Ow.star (Blk r_0_b [ptr r_0_dec_b 0, .bool q5_1_2.bad] 248) (Ow.star (Blk r_0_dec_b [sg.2.2.1.val, i64 sg.2.2.2.1, sg.2.2.2.2.val] 239) (Ow.star (Sv.own sg.1 96) (Ow.emp)))) (⟨none, 0, []⟩, 0, q5_1_1.b, q5_1_1.at_, q5_1_1.err) [0, 3, 5, 6] hS rfl ?_
 clear hS
 rintro ⟨out3_2, x6_3, c0_4, c1_5, c2_6⟩ m1 y1 hS hK1
 show VC _ _ _ _ _ [(0, ptr r_0_b 0), (3, out3_2.val), (5, i64 q5_1_0), (6, i64 x6_3)] (Mo.and (c0_4.ok.and c2_6.ok) _) (Ow.star (Blk r_0_b [ptr r_0_dec_b 0, .bool q5_1_2.bad] 248) (Ow.star (Blk r_0_dec_b [c0_4.val, i64 c1_5, c2_6.val] 239) (Ow.star (Sv.own out3_2 96) (Ow.emp))))
 refine Zq (Zr ?_)
 refine VL.q (q_lss rfl rfl) (by decide) ?_
 refine Zl ?_
 refine Zq ?_
 refine VC.cond_dec rfl (fun h7 => ?_) (fun h7 => ?_)
 ·
  replace hS := it_t h7 hS
  refine Zk ?_
  refine Zq (Zb ?_)
  refine VC.draw [(0, true), (1, true), (2, true), (3, true), (4, true), (6, true), (7, true), (8, true), (9, true), (11, true), (12, true), (13, true), (14, true), (5, false), (10, false), (15, false), (16, true), (17, false), (18, false), (19, true)] mixed (by kernel_rfl) (by kernel_rfl) (by kernel_rfl) ?_
  refine VD.q rfl (q_move rfl) (by decide) ?_
  refine VD.q rfl (q_move rfl) (by decide) ?_
  refine VD.q rfl (q_nilCheck rfl) (by decide) ?_
  refine VD.q rfl (q_field gfa248_0 rfl) (by decide) ?_
  refine VD.q rfl (q_fe gone163 rfl rfl) (by decide) ?_
  refine VD.q rfl (q_move rfl) (by decide) ?_
  refine VD.q rfl (q_nilCheck rfl) (by decide) ?_
  refine VD.q rfl (q_field gfa248_0 rfl) (by decide) ?_
  refine VD.q rfl (q_fe gone163 rfl rfl) (by decide) ?_
  refine VD.q rfl (q_move rfl) (by decide) ?_
  refine VD.q rfl (q_nilCheck rfl) (by decide) ?_
  refine VD.q rfl (q_field gfa248_0 rfl) (by decide) ?_
  refine VD.q rfl (q_fe gone163 rfl rfl) (by decide) ?_
  refine VD.one rfl ?_
  obtain ⟨y13_7, ey13_7, hS⟩ := bd_s hS
  refine VL.callO (codec_Dec_Text_ct r_0_dec_b (⟨c0_4, c1_5, c2_6⟩ : CodecDec) ey13_7) rfl (by decide) ?_
  rintro ⟨q13_7_0, q13_7_1⟩ rfl
  try dsimp only
  refine VL.back (D' := [(14, ptr r_0_dec_b 0), (13, ptr r_0_b 0), (12, ptr r_0_b 0), (9, ptr r_0_dec_b 0), (8, ptr r_0_b 0), (7, ptr r_0_b 0)]) (by kernel_rfl) (Pend.cons rfl (q_fe gone163 rfl rfl) (Pend.cons rfl (q_field gfa248_0 rfl) (Pend.cons rfl (q_nilCheck rfl) (Pend.cons rfl (q_fe gone163 rfl rfl) (Pend.cons rfl (q_field gfa248_0 rfl) (Pend.cons rfl (q_nilCheck rfl) (Pend.nil))))))) ?_
  refine VD.one rfl ?_
  obtain ⟨y18_8, ey18_8, hS⟩ := bd_s hS
  refine VL.callO (codec_Dec_Int_ct r_0_dec_b q13_7_1 ey18_8) rfl (by decide) ?_
  rintro ⟨q18_8_0, q18_8_1⟩ rfl
  try dsimp only
  refine VL.back (D' := [(14, ptr r_0_dec_b 0), (13, ptr r_0_b 0), (12, ptr r_0_b 0)]) (by kernel_rfl) (Pend.cons rfl (q_fe gone163 rfl rfl) (Pend.cons rfl (q_field gfa248_0 rfl) (Pend.cons rfl (q_nilCheck rfl) (Pend.nil)))) ?_
  refine VD.one rfl ?_
  obtain ⟨y23_9, ey23_9, hS⟩ := bd_s hS
  refine VL.callO (codec_Dec_Int_ct r_0_dec_b q18_8_1 ey23_9) rfl (by decide) ?_
  rintro ⟨q23_9_0, q23_9_1⟩ rfl
  try dsimp only
  refine VL.back (D' := []) (by kernel_rfl) (Pend.nil) ?_
  refine VD.q rfl (q_build (vs := [(0, str q13_7_0), (1, i64 q18_8_0), (2, i64 q23_9_0)]) (cs := #[str q13_7_0, i64 q18_8_0, i64 q23_9_0]) rfl (by kernel_rfl)) (by decide) ?_
  refine VD.one rfl ?_
  refine VL.lit (α := ObjectItem) (xs := [.tmp 24]) (vs := [.agg #[str q13_7_0, i64 q18_8_0, i64 q23_9_0]]) [⟨q13_7_0, q18_8_0, q23_9_0⟩] Tryz.underlying32 glit96 (by decide) rfl rfl rfl rfl (by decide) (fun _ _ _ _ => trivial) (by decide) (fun s25_10 hs25_10 => ?_) (by decide)
  replace hS := lt_to hs25_10 hS
  refine VL.back (D' := []) (by kernel_rfl) (Pend.nil) ?_
  refine VD.one rfl ?_
  obtain ⟨b26, hS⟩ := gd_s hS
  refine VL.app (s := out3_2) (r := s25_10) Tryz.underlying32 gapp96 (by decide) rfl Fo.out (ap1 b26) (ap2 b26 (by decide)) (by decide) (fun s26_12 hs26_12 => ?_)
  replace hS := lt_to hs26_12 hS
  refine VL.back (D' := []) (by kernel_rfl) (Pend.nil) ?_
  refine VD.q rfl (q_assign rfl) (by decide) ?_
  refine VD.to (fun _ _ h => h) ?_
  refine VC.keep (ρ' := [(0, ptr r_0_b 0), (3, s26_12.val), (5, i64 q5_1_0), (6, i64 x6_3)]) [0, 3, 5, 6] rfl ?_
  refine Zr ?_
  obtain ⟨b27, hS⟩ := gd_s hS
  refine VL.q (q_add rfl rfl b27) (by decide) ?_
  refine Zm ?_
  refine VL.rnd (s26_12, (x6_3 + 1), q23_9_1.b, q23_9_1.at_, q23_9_1.err) [0, 3, 5, 6] (fun _ _ h => h) (go2 hS hK1) rfl
 replace hS := it_f h7 hS
 replace hS := up2 hS hK1
 refine Zx ?_
 refine Zq (Zr ?_)
 refine Zm ?_
 refine VL.shut out3_2 96 (fun _ _ _ _ => trivial) ?_
 obtain ⟨y29_14, ey29_14, hS⟩ := bd_s hS
 refine VL.callF (slices_Clip_object_Item_object_Item_ct out3_2 ey29_14) rfl (by decide) ?_
 rintro q29_14_0 rfl
 try dsimp only
 refine Za ?_
 refine Zl ?_
 cases hS
 exact VC.ret (fin1 (.inr rfl) rfl rfl (q29_14_0, ⟨c0_4, c1_5, c2_6⟩, ⟨q5_1_2.bad⟩) rfl rfl (by (try dsimp only); exact InM.out) (by (try dsimp only); exact EntO.out))
theorem object_reader_numbers_ct (r_0_b : Nat) (r_0 : ObjectReader) (r_0_dec_b : Nat) (r_0_dec : CodecDec) {r : List Int × CodecDecP × ObjectReader} (hS : Sh.object_reader_numbers r_0 r_0_dec.pl = some r) :
 Ct Tryz.prog 218 [ptr r_0_b 0] (r_0_dec.b.ok.and r_0_dec.err.ok) (Ow.star (Blk r_0_dec_b [r_0_dec.b.val, i64 r_0_dec.at_, r_0_dec.err.val] 239) (Blk r_0_b [ptr r_0_dec_b 0, .bool r_0.bad] 248)) (X := Sv Int × CodecDec × ObjectReader) (fun x => x.1.val) (fun x => r = (x.1.l, x.2.1.pl, x.2.2)) (fun x => (x.1.ok.and (x.2.1.b.ok.and x.2.1.err.ok))) (fun x => Ow.star (Blk r_0_dec_b [x.2.1.b.val, i64 x.2.1.at_, x.2.1.err.val] 239) (Blk r_0_b [ptr r_0_dec_b 0, .bool x.2.2.bad] 248)) := by
 refine Ct.of Tryz.func218 rfl (by kernel_rfl) Tryz.ntmps218 (by simp) fun c => ?_
 unfold Sh.object_reader_numbers at hS
 refine Zq (Zr ?_)
 refine Za ?_
 refine Zl ?_
 refine Zq (Zr ?_)
 refine Za ?_
 refine Zl ?_
 refine Zq (Zq (Zr ?_))
 refine Zm ?_
 obtain ⟨y5_1, ey5_1, hS⟩ := bd_s hS
 refine VL.callO (object_reader_many_ct r_0_b r_0 r_0_dec_b r_0_dec ey5_1) rfl (by decide) ?_
 rintro ⟨q5_1_0, q5_1_1, q5_1_2⟩ rfl
 try dsimp only
 refine Zm ?_
 refine Zl ?_
 refine Zb ?_
 refine VC.nilO (⟨none, 0, []⟩ : Sv Int) 3 ⟨rfl, rfl⟩ ?_
 refine VC.iter (S := Sv Int × Int × Sv UInt8 × Int × Er) (fun sg => (sg.1.l, sg.2.1, sg.2.2.1.l, sg.2.2.2.1, sg.2.2.2.2.pl)) (fun sg => [(0, ptr r_0_b 0), (3, sg.1.val), (5, i64 q5_1_0), (6, i64 sg.2.1)]) (fun sg => (sg.2.2.1.ok.and sg.2.2.2.2.ok)) (fun sg => Ow.star (Blk r_0_b [ptr r_0_dec_b 0, .bool q5_1_2.bad] 248) (Ow.star (Blk r_0_dec_b [sg.2.2.1.val, i64 sg.2.2.2.1, sg.2.2.2.2.val] 239) (Ow.star (Sv.own sg.1 3) (Ow.emp)))) (⟨none, 0, []⟩, 0, q5_1_1.b, q5_1_1.at_, q5_1_1.err) [0, 3, 5, 6] hS rfl ?_
 clear hS
 rintro ⟨out3_2, x6_3, c0_4, c1_5, c2_6⟩ m1 y1 hS hK1
 show VC _ _ _ _ _ [(0, ptr r_0_b 0), (3, out3_2.val), (5, i64 q5_1_0), (6, i64 x6_3)] (Mo.and (c0_4.ok.and c2_6.ok) _) (Ow.star (Blk r_0_b [ptr r_0_dec_b 0, .bool q5_1_2.bad] 248) (Ow.star (Blk r_0_dec_b [c0_4.val, i64 c1_5, c2_6.val] 239) (Ow.star (Sv.own out3_2 3) (Ow.emp))))
 refine Zq (Zr ?_)
 refine VL.q (q_lss rfl rfl) (by decide) ?_
 refine Zl ?_
 refine Zq ?_
 refine VC.cond_dec rfl (fun h7 => ?_) (fun h7 => ?_)
 ·
  replace hS := it_t h7 hS
  refine Zk ?_
  refine Zq (Zb (Zr ?_))
  refine Zm ?_
  refine Zm ?_
  refine VL.q (q_nilCheck rfl) (by decide) ?_
  refine VL.q (q_field gfa248_0 rfl) (by decide) ?_
  refine VL.q (q_fe gone163 rfl rfl) (by decide) ?_
  obtain ⟨y13_7, ey13_7, hS⟩ := bd_s hS
  refine VL.callO (codec_Dec_Int_ct r_0_dec_b (⟨c0_4, c1_5, c2_6⟩ : CodecDec) ey13_7) rfl (by decide) ?_
  rintro ⟨q13_7_0, q13_7_1⟩ rfl
  try dsimp only
  refine VL.lit (α := Int) (xs := [.tmp 13]) (vs := [i64 q13_7_0]) [q13_7_0] Tryz.underlying26 glit3 (by decide) rfl rfl rfl rfl (by decide) (fun _ _ _ _ => trivial) (by decide) (fun s14_8 hs14_8 => ?_) (by decide)
  replace hS := lt_to hs14_8 hS
  obtain ⟨b15, hS⟩ := gd_s hS
  refine VL.app (s := out3_2) (r := s14_8) Tryz.underlying26 gapp3 (by decide) rfl Fo.out (ap1 b15) (ap2 b15 (by decide)) (by decide) (fun s15_10 hs15_10 => ?_)
  replace hS := lt_to hs15_10 hS
  refine Za ?_
  refine Zl ?_
  refine VC.keep (ρ' := [(0, ptr r_0_b 0), (3, s15_10.val), (5, i64 q5_1_0), (6, i64 x6_3)]) [0, 3, 5, 6] rfl ?_
  refine Zr ?_
  obtain ⟨b16, hS⟩ := gd_s hS
  refine VL.q (q_add rfl rfl b16) (by decide) ?_
  refine Zm ?_
  refine VL.rnd (s15_10, (x6_3 + 1), q13_7_1.b, q13_7_1.at_, q13_7_1.err) [0, 3, 5, 6] (fun _ _ h => h) (go2 hS hK1) rfl
 replace hS := it_f h7 hS
 replace hS := up2 hS hK1
 refine Zx ?_
 refine Zq (Zr ?_)
 refine Zm ?_
 refine VL.shut out3_2 3 (fun _ _ _ _ => trivial) ?_
 obtain ⟨y18_12, ey18_12, hS⟩ := bd_s hS
 refine VL.callF (slices_Clip_int_int_ct out3_2 ey18_12) rfl (by decide) ?_
 rintro q18_12_0 rfl
 try dsimp only
 refine Za ?_
 refine Zl ?_
 cases hS
 exact VC.ret (fin1 (.inr rfl) rfl rfl (q18_12_0, ⟨c0_4, c1_5, c2_6⟩, ⟨q5_1_2.bad⟩) rfl rfl (by (try dsimp only); exact InM.out) (by (try dsimp only); exact EntO.out))
theorem object_reader_object_ct (r_0_b : Nat) (r_0 : ObjectReader) (r_0_dec_b : Nat) (r_0_dec : CodecDec) {r : ObjectObjectP × CodecDecP × ObjectReader} (hS : Sh.object_reader_object r_0 r_0_dec.pl = some r) :
 Ct Tryz.prog 174 [ptr r_0_b 0] (r_0_dec.b.ok.and r_0_dec.err.ok) (Ow.star (Blk r_0_dec_b [r_0_dec.b.val, i64 r_0_dec.at_, r_0_dec.err.val] 239) (Blk r_0_b [ptr r_0_dec_b 0, .bool r_0.bad] 248)) (X := ObjectObject × CodecDec × ObjectReader) (fun x => .agg (Dat.enc x.1).toArray) (fun x => r = (x.1.pl, x.2.1.pl, x.2.2)) (fun x => (x.1.m.and (x.2.1.b.ok.and x.2.1.err.ok))) (fun x => Ow.star (Blk r_0_dec_b [x.2.1.b.val, i64 x.2.1.at_, x.2.1.err.val] 239) (Blk r_0_b [ptr r_0_dec_b 0, .bool x.2.2.bad] 248)) := by
 refine Ct.of Tryz.func174 rfl (by kernel_rfl) Tryz.ntmps174 (by simp) fun c => ?_
 unfold Sh.object_reader_object at hS
 refine Zq (Zr ?_)
 refine VL.alloc (cs := [i64 0, .slice none 0 0, .slice none 0 0, i64 0, .slice none 0 0, i64 0, str []]) (by kernel_rfl) (by decide) fun b2_1 => ?_
 refine Zl ?_
 refine Zq (Zr ?_)
 refine Zm ?_
 refine VL.q (q_nilCheck rfl) (by decide) ?_
 refine VL.q (q_field gfa248_0 rfl) (by decide) ?_
 refine VL.q (q_fe gone163 rfl rfl) (by decide) ?_
 obtain ⟨y8_2, ey8_2, hS⟩ := bd_s hS
 refine VL.callO (codec_Dec_Int_ct r_0_dec_b r_0_dec ey8_2) rfl (by decide) ?_
 rintro ⟨q8_2_0, q8_2_1⟩ rfl
 try dsimp only
 refine VL.q (q_build (vs := [(0, i64 q8_2_0)]) (cs := #[i64 q8_2_0, .slice none 0 0, .slice none 0 0, i64 0, .slice none 0 0, i64 0, str []]) rfl (by kernel_rfl)) (by decide) ?_
 refine VL.alloc (cs := [i64 0, .slice none 0 0, .slice none 0 0, i64 0, .slice none 0 0, i64 0, str []]) (by kernel_rfl) (by decide) fun b3_3 => ?_
 refine VL.store (vc := [i64 q8_2_0, .slice none 0 0, .slice none 0 0, i64 0, .slice none 0 0, i64 0, str []]) (cs' := [i64 q8_2_0, .slice none 0 0, .slice none 0 0, i64 0, .slice none 0 0, i64 0, str []]) rfl rfl rfl gsz34 rfl rfl (Nat.le_of_ble_eq_true rfl) rfl ?_
 refine Zl ?_
 refine Zq (Zq (Zr ?_))
 refine VL.q (q_field gfa34_0 rfl) (by decide) ?_
 refine VL.q (q_fe gone3 rfl rfl) (by decide) ?_
 refine Zl ?_
 refine VC.keep (ρ' := [(0, ptr r_0_b 0), (2, ptr b2_1 0), (3, ptr b3_3 0), (11, i64 q8_2_0)]) [0, 2, 3, 11] rfl ?_
 refine Zb (Zq (Zr ?_))
 refine VL.q (q_eql rfl rfl) (by decide) ?_
 refine Za ?_
 refine Zl ?_
 refine VC.cond_dec rfl (fun h12 => ?_) (fun h12 => ?_)
 ·
  replace hS := it_t h12 hS
  refine Zr ?_
  refine Zm ?_
  refine VL.q (q_nilCheck rfl) (by decide) ?_
  refine VL.q (q_field gfa248_0 rfl) (by decide) ?_
  refine VL.q (q_fe gone163 rfl rfl) (by decide) ?_
  obtain ⟨y18_4, ey18_4, hS⟩ := bd_s hS
  refine VL.callO (codec_Dec_Text_ct r_0_dec_b q8_2_1 ey18_4) rfl (by decide) ?_
  rintro ⟨q18_4_0, q18_4_1⟩ rfl
  try dsimp only
  obtain ⟨b19, hS⟩ := gd_s hS
  refine VL.s2b Tryz.underlying9 Tryz.underlying27 Tryz.underlying5 rfl b19 (by decide) fun s19_5 hs19_5 => ?_
  replace hS := lt_to hs19_5 hS
  refine VL.q (q_field gfa34_1 rfl) (by decide) ?_
  refine VL.store (vc := [s19_5.val]) (cs' := [i64 q8_2_0, s19_5.val, .slice none 0 0, i64 0, .slice none 0 0, i64 0, str []]) rfl rfl rfl gsz27 rfl rfl (Nat.le_of_ble_eq_true rfl) rfl ?_
  refine Zl ?_
  refine VC.keep (ρ' := [(2, ptr b2_1 0), (3, ptr b3_3 0)]) [2, 3] rfl ?_
  refine Zq (Zr ?_)
  refine VL.q (q_fes gagg34 rfl rfl) (by decide) ?_
  refine VL.store (vc := [i64 q8_2_0, s19_5.val, .slice none 0 0, i64 0, .slice none 0 0, i64 0, str []]) (cs' := [i64 q8_2_0, s19_5.val, .slice none 0 0, i64 0, .slice none 0 0, i64 0, str []]) rfl rfl rfl gsz34 rfl rfl (Nat.le_of_ble_eq_true rfl) rfl ?_
  refine Zl ?_
  cases hS
  exact VC.ret (finG (vs := [.agg #[i64 q8_2_0, s19_5.val, .slice none 0 0, i64 0, .slice none 0 0, i64 0, str []]]) (.inr rfl) rfl (RVs.cell gagg34 rfl rfl Rd.blk (RVs.nil)) (⟨q8_2_0, s19_5, ⟨none, 0, []⟩, 0, ⟨none, 0, []⟩, 0, []⟩, ⟨q18_4_1.b, q18_4_1.at_, q18_4_1.err⟩, ⟨r_0.bad⟩) rfl rfl (by (try dsimp only); exact InM.out) (by (try dsimp only); exact EntO.out))
 replace hS := it_f h12 hS
 refine Zq (Zr ?_)
 refine VL.q (q_eql rfl rfl) (by decide) ?_
 refine Za ?_
 refine Zl ?_
 refine VC.cond_dec rfl (fun h21 => ?_) (fun h21 => ?_)
 ·
  replace hS := it_t h21 hS
  refine Zr ?_
  refine Zm ?_
  obtain ⟨y24_7, ey24_7, hS⟩ := bd_s hS
  refine VL.callO (object_reader_items_ct r_0_b r_0 r_0_dec_b q8_2_1 ey24_7) rfl (by decide) ?_
  rintro ⟨q24_7_0, q24_7_1, q24_7_2⟩ rfl
  try dsimp only
  refine VL.q (q_field gfa34_2 rfl) (by decide) ?_
  refine VL.store (vc := [q24_7_0.val]) (cs' := [i64 q8_2_0, .slice none 0 0, q24_7_0.val, i64 0, .slice none 0 0, i64 0, str []]) rfl rfl rfl gsz32 rfl rfl (Nat.le_of_ble_eq_true rfl) rfl ?_
  refine Zl ?_
  refine VC.keep (ρ' := [(2, ptr b2_1 0), (3, ptr b3_3 0)]) [2, 3] rfl ?_
  refine Zq (Zr ?_)
  refine VL.q (q_fes gagg34 rfl rfl) (by decide) ?_
  refine VL.store (vc := [i64 q8_2_0, .slice none 0 0, q24_7_0.val, i64 0, .slice none 0 0, i64 0, str []]) (cs' := [i64 q8_2_0, .slice none 0 0, q24_7_0.val, i64 0, .slice none 0 0, i64 0, str []]) rfl rfl rfl gsz34 rfl rfl (Nat.le_of_ble_eq_true rfl) rfl ?_
  refine Zl ?_
  cases hS
  exact VC.ret (finG (vs := [.agg #[i64 q8_2_0, .slice none 0 0, q24_7_0.val, i64 0, .slice none 0 0, i64 0, str []]]) (.inr rfl) rfl (RVs.cell gagg34 rfl rfl Rd.blk (RVs.nil)) (⟨q8_2_0, ⟨none, 0, []⟩, q24_7_0, 0, ⟨none, 0, []⟩, 0, []⟩, ⟨q24_7_1.b, q24_7_1.at_, q24_7_1.err⟩, ⟨q24_7_2.bad⟩) rfl rfl (by (try dsimp only); exact InM.out) (by (try dsimp only); exact EntO.out))
 replace hS := it_f h21 hS
 refine Zq (Zr ?_)
 refine VL.q (q_eql rfl rfl) (by decide) ?_
 refine Za ?_
 refine Zl ?_
 refine VC.cond_dec rfl (fun h26 => ?_) (fun h26 => ?_)
 ·
  replace hS := it_t h26 hS
  refine Zq (Zr ?_)
  refine Zm ?_
  refine VL.q (q_nilCheck rfl) (by decide) ?_
  refine VL.q (q_field gfa248_0 rfl) (by decide) ?_
  refine VL.q (q_fe gone163 rfl rfl) (by decide) ?_
  obtain ⟨y32_8, ey32_8, hS⟩ := bd_s hS
  refine VL.callO (codec_Dec_Int_ct r_0_dec_b q8_2_1 ey32_8) rfl (by decide) ?_
  rintro ⟨q32_8_0, q32_8_1⟩ rfl
  try dsimp only
  refine VL.q (q_field gfa34_3 rfl) (by decide) ?_
  refine VL.store (vc := [i64 q32_8_0]) (cs' := [i64 q8_2_0, .slice none 0 0, .slice none 0 0, i64 q32_8_0, .slice none 0 0, i64 0, str []]) rfl rfl rfl gsz3 rfl rfl (Nat.le_of_ble_eq_true rfl) rfl ?_
  refine Zl ?_
  refine VC.keep (ρ' := [(0, ptr r_0_b 0), (2, ptr b2_1 0), (3, ptr b3_3 0)]) [0, 2, 3] rfl ?_
  refine Zq (Zr ?_)
  refine Zm ?_
  obtain ⟨y35_9, ey35_9, hS⟩ := bd_s hS
  refine VL.callO (object_reader_numbers_ct r_0_b r_0 r_0_dec_b q32_8_1 ey35_9) rfl (by decide) ?_
  rintro ⟨q35_9_0, q35_9_1, q35_9_2⟩ rfl
  try dsimp only
  refine VL.q (q_field gfa34_4 rfl) (by decide) ?_
  refine VL.store (vc := [q35_9_0.val]) (cs' := [i64 q8_2_0, .slice none 0 0, .slice none 0 0, i64 q32_8_0, q35_9_0.val, i64 0, str []]) rfl rfl rfl gsz26 rfl rfl (Nat.le_of_ble_eq_true rfl) rfl ?_
  refine Zl ?_
  refine VC.draw [(0, true), (1, true), (2, true), (3, true), (5, true), (6, true), (7, true), (8, true), (4, false), (10, true), (9, false), (11, false), (12, true), (13, false)] mixed (by kernel_rfl) (by kernel_rfl) (by kernel_rfl) ?_
  refine VD.q rfl (q_move rfl) (by decide) ?_
  refine VD.q rfl (q_nilCheck rfl) (by decide) ?_
  refine VD.q rfl (q_field gfa248_0 rfl) (by decide) ?_
  refine VD.q rfl (q_fe gone163 rfl rfl) (by decide) ?_
  refine VD.q rfl (q_move rfl) (by decide) ?_
  refine VD.q rfl (q_nilCheck rfl) (by decide) ?_
  refine VD.q rfl (q_field gfa248_0 rfl) (by decide) ?_
  refine VD.q rfl (q_fe gone163 rfl rfl) (by decide) ?_
  refine VD.one rfl ?_
  obtain ⟨y41_10, ey41_10, hS⟩ := bd_s hS
  refine VL.callO (codec_Dec_Int_ct r_0_dec_b q35_9_1 ey41_10) rfl (by decide) ?_
  rintro ⟨q41_10_0, q41_10_1⟩ rfl
  try dsimp only
  refine VL.back (D' := [(8, ptr r_0_dec_b 0), (7, ptr r_0_b 0), (6, ptr r_0_b 0)]) (by kernel_rfl) (Pend.cons rfl (q_fe gone163 rfl rfl) (Pend.cons rfl (q_field gfa248_0 rfl) (Pend.cons rfl (q_nilCheck rfl) (Pend.nil)))) ?_
  refine VD.q rfl (q_field gfa34_5 rfl) (by decide) ?_
  refine VD.one rfl ?_
  obtain ⟨y46_11, ey46_11, hS⟩ := bd_s hS
  refine VL.callO (codec_Dec_Text_ct r_0_dec_b q41_10_1 ey46_11) rfl (by decide) ?_
  rintro ⟨q46_11_0, q46_11_1⟩ rfl
  try dsimp only
  refine VL.back (D' := [(10, ptr b3_3 5)]) (by kernel_rfl) (Pend.cons rfl (q_field gfa34_5 rfl) (Pend.nil)) ?_
  refine VD.one rfl ?_
  refine VL.store (vc := [i64 q41_10_0]) (cs' := [i64 q8_2_0, .slice none 0 0, .slice none 0 0, i64 q32_8_0, q35_9_0.val, i64 q41_10_0, str []]) rfl rfl rfl gsz3 rfl rfl (Nat.le_of_ble_eq_true rfl) rfl ?_
  refine VL.back (D' := []) (by kernel_rfl) (Pend.nil) ?_
  refine VD.q rfl (q_field gfa34_6 rfl) (by decide) ?_
  refine VD.one rfl ?_
  refine VL.store (vc := [str q46_11_0]) (cs' := [i64 q8_2_0, .slice none 0 0, .slice none 0 0, i64 q32_8_0, q35_9_0.val, i64 q41_10_0, str q46_11_0]) rfl rfl rfl gsz9 rfl rfl (Nat.le_of_ble_eq_true rfl) rfl ?_
  refine VL.back (D' := []) (by kernel_rfl) (Pend.nil) ?_
  refine VD.to (fun _ _ h => h) ?_
  refine VC.keep (ρ' := [(2, ptr b2_1 0), (3, ptr b3_3 0)]) [2, 3] rfl ?_
  refine Zq (Zr ?_)
  refine VL.q (q_fes gagg34 rfl rfl) (by decide) ?_
  refine VL.store (vc := [i64 q8_2_0, .slice none 0 0, .slice none 0 0, i64 q32_8_0, q35_9_0.val, i64 q41_10_0, str q46_11_0]) (cs' := [i64 q8_2_0, .slice none 0 0, .slice none 0 0, i64 q32_8_0, q35_9_0.val, i64 q41_10_0, str q46_11_0]) rfl rfl rfl gsz34 rfl rfl (Nat.le_of_ble_eq_true rfl) rfl ?_
  refine Zl ?_
  cases hS
  exact VC.ret (finG (vs := [.agg #[i64 q8_2_0, .slice none 0 0, .slice none 0 0, i64 q32_8_0, q35_9_0.val, i64 q41_10_0, str q46_11_0]]) (.inr rfl) rfl (RVs.cell gagg34 rfl rfl Rd.blk (RVs.nil)) (⟨q8_2_0, ⟨none, 0, []⟩, ⟨none, 0, []⟩, q32_8_0, q35_9_0, q41_10_0, q46_11_0⟩, ⟨q46_11_1.b, q46_11_1.at_, q46_11_1.err⟩, ⟨q35_9_2.bad⟩) rfl rfl (by (try dsimp only); exact InM.out) (by (try dsimp only); exact EntO.out))
 replace hS := it_f h26 hS
 refine Zk ?_
 refine Zq (Zr ?_)
 refine VL.q (q_fes gagg34 rfl rfl) (by decide) ?_
 refine VL.store (vc := [i64 q8_2_0, .slice none 0 0, .slice none 0 0, i64 0, .slice none 0 0, i64 0, str []]) (cs' := [i64 q8_2_0, .slice none 0 0, .slice none 0 0, i64 0, .slice none 0 0, i64 0, str []]) rfl rfl rfl gsz34 rfl rfl (Nat.le_of_ble_eq_true rfl) rfl ?_
 refine Zl ?_
 refine VC.keep (ρ' := [(2, ptr b2_1 0)]) [2] rfl ?_
 cases hS
 exact VC.ret (finG (vs := [.agg #[i64 q8_2_0, .slice none 0 0, .slice none 0 0, i64 0, .slice none 0 0, i64 0, str []]]) (.inr rfl) rfl (RVs.cell gagg34 rfl rfl Rd.blk (RVs.nil)) (⟨q8_2_0, ⟨none, 0, []⟩, ⟨none, 0, []⟩, 0, ⟨none, 0, []⟩, 0, []⟩, ⟨q8_2_1.b, q8_2_1.at_, q8_2_1.err⟩, ⟨r_0.bad⟩) rfl rfl (by (try dsimp only); exact InM.out) (by (try dsimp only); exact EntO.out))
theorem codec_Dec_Err_ct (d_0_b : Nat) (d_0 : CodecDec) {r : Err} (hS : Sh.codec_Dec_Err d_0.pl = some r) :
 Ct Tryz.prog 97 [ptr d_0_b 0] (d_0.b.ok.and d_0.err.ok) (Blk d_0_b [d_0.b.val, i64 d_0.at_, d_0.err.val] 239) (X := Er) (fun x => x.val) (fun x => r = x.pl) (fun x => x.ok) (fun x => Blk d_0_b [d_0.b.val, i64 d_0.at_, d_0.err.val] 239) := by
 refine Ct.of Tryz.func97 rfl (by kernel_rfl) Tryz.ntmps97 (by simp) fun c => ?_
 unfold Sh.codec_Dec_Err at hS
 refine Zq (Zr ?_)
 refine Za ?_
 refine Zl ?_
 refine Zq (Zr ?_)
 refine Zm ?_
 refine VL.q (q_nilCheck rfl) (by decide) ?_
 refine VL.q (q_field gfa239_2 rfl) (by decide) ?_
 refine VL.q (q_fe gone29 rfl rfl) (by decide) ?_
 refine Za ?_
 refine Zl ?_
 cases hS
 exact VC.ret (fin1 (.inr rfl) rfl rfl d_0.err rfl rfl (by (try dsimp only); exact InM.out) (by (try dsimp only); exact EntO.out))
theorem codec_Dec_Left_ct (d_0_b : Nat) (d_0 : CodecDec) {r : Int} (hS : Sh.codec_Dec_Left d_0.pl = some r) :
 Ct Tryz.prog 99 [ptr d_0_b 0] (d_0.b.ok.and (d_0.err.ok.and (Cells d_0_b 0 [d_0.b.val, i64 d_0.at_, d_0.err.val]))) (Ow.emp) (X := Unit) (fun _ => i64 r) (fun _ => True) (fun _ => Mo.tt) (fun _ => Ow.emp) := by
 refine Ct.of Tryz.func99 rfl (by kernel_rfl) Tryz.ntmps99 (by simp) fun c => ?_
 unfold Sh.codec_Dec_Left at hS
 refine Zq (Zr ?_)
 refine Za ?_
 refine Zl ?_
 refine Zq (Zq (Zr ?_))
 refine Zm ?_
 refine VL.q (q_nilCheck rfl) (by decide) ?_
 refine VL.q (q_field gfa239_2 rfl) (by decide) ?_
 refine VL.q (q_fm gone29 rfl rfl) (by decide) ?_
 refine VL.q (q_erne Tryz.underlying29 rfl) (by decide) ?_
 refine Zl ?_
 refine VC.cond_ndec rfl (fun h7 => ?_) (fun h7 => ?_)
 ·
  replace hS := it_f h7 hS
  refine Zq (Zr ?_)
  refine Za ?_
  refine Zl ?_
  cases hS
  exact Ze
 replace hS := it_t h7 hS
 refine Zk ?_
 refine Zq ?_
 refine VC.draw ((List.range 11).map fun k => (k, true)) mixed (by kernel_rfl) (by kernel_rfl) (by kernel_rfl) ?_
 refine VD.q rfl (q_move rfl) (by decide) ?_
 refine VD.q rfl (q_nilCheck rfl) (by decide) ?_
 refine VD.q rfl (q_field gfa239_0 rfl) (by decide) ?_
 refine VD.q rfl (q_fm gone27 rfl rfl) (by decide) ?_
 refine VD.q rfl (q_ln (s := d_0.b) Tryz.underlying27 rfl) (by decide) ?_
 refine VD.q rfl (q_move rfl) (by decide) ?_
 refine VD.q rfl (q_nilCheck rfl) (by decide) ?_
 refine VD.q rfl (q_field gfa239_1 rfl) (by decide) ?_
 refine VD.q rfl (q_fm gone3 rfl rfl) (by decide) ?_
 obtain ⟨b17, hS⟩ := gd_s hS
 refine VD.q rfl (q_sub rfl rfl b17) (by decide) ?_
 refine VD.q rfl (q_assign rfl) (by decide) ?_
 refine VD.to (fun _ _ h => h) ?_
 refine VC.keep (ρ' := [(2, i64 ((d_0.b.l.length : Int) - d_0.at_))]) [2] rfl ?_
 cases hS
 exact Ze
theorem object_Decode_ct (b_0 : Sv UInt8) {r : ObjectObjectP × Err} (hS : Sh.object_Decode b_0.l = some r) :
 Ct Tryz.prog 112 [b_0.val] b_0.ok (Ow.emp) (X := ObjectObject × Er) (fun x => .tuple #[.agg (Dat.enc x.1).toArray, x.2.val]) (fun x => r = (x.1.pl, x.2.pl)) (fun x => (x.1.m.and x.2.ok)) (fun x => Ow.emp) := by
 refine Ct.of Tryz.func112 rfl (by kernel_rfl) Tryz.ntmps112 (by simp) fun c => ?_
 unfold Sh.object_Decode at hS
 refine Zq (Zr ?_)
 refine VL.alloc (cs := [i64 0, .slice none 0 0, .slice none 0 0, i64 0, .slice none 0 0, i64 0, str []]) (by kernel_rfl) (by decide) fun b2_1 => ?_
 refine Za ?_
 refine Zl ?_
 refine Zq (Zr ?_)
 refine Zm ?_
 obtain ⟨y12_2, ey12_2, hS⟩ := bd_s hS
 refine VL.callF (seal_Open_ct b_0 ey12_2) rfl (by decide) ?_
 rintro ⟨q12_2_0, q12_2_1⟩ rfl
 try dsimp only
 refine Zm ?_
 refine VL.q (q_extract rfl rfl) (by decide) ?_
 refine VL.q (q_extract rfl rfl) (by decide) ?_
 refine Za ?_
 refine Za ?_
 refine Zl ?_
 refine Zq (Zq (Zr ?_))
 refine Zm ?_
 refine VL.q (q_erne Tryz.underlying29 rfl) (by decide) ?_
 refine Zl ?_
 refine VC.keep (ρ' := [(0, b_0.val), (2, ptr b2_1 0), (4, q12_2_0.val), (5, q12_2_1.val), (16, .bool (!decide (q12_2_1.pl.isNil = true)))]) [0, 2, 4, 5, 16] rfl ?_
 refine VC.cond_ndec rfl (fun h16 => ?_) (fun h16 => ?_)
 ·
  replace hS := it_f h16 hS
  refine Zq (Zr ?_)
  refine VL.q (q_build (vs := []) (cs := #[i64 0, .slice none 0 0, .slice none 0 0, i64 0, .slice none 0 0, i64 0, str []]) rfl (by kernel_rfl)) (by decide) ?_
  refine Zm ?_
  refine VL.store (vc := [i64 0, .slice none 0 0, .slice none 0 0, i64 0, .slice none 0 0, i64 0, str []]) (cs' := [i64 0, .slice none 0 0, .slice none 0 0, i64 0, .slice none 0 0, i64 0, str []]) rfl rfl rfl gsz34 rfl rfl (Nat.le_of_ble_eq_true rfl) rfl ?_
  refine Za ?_
  refine Zl ?_
  cases hS
  exact VC.ret (finG (vs := [.agg #[i64 0, .slice none 0 0, .slice none 0 0, i64 0, .slice none 0 0, i64 0, str []], q12_2_1.val]) (.inr rfl) rfl (RVs.cell gagg34 rfl rfl Rd.blk (RVs.tmp rfl (RVs.nil))) (⟨0, ⟨none, 0, []⟩, ⟨none, 0, []⟩, 0, ⟨none, 0, []⟩, 0, []⟩, q12_2_1) rfl rfl (by (try dsimp only); exact InM.out) (fun _ _ => trivial))
 replace hS := it_t h16 hS
 refine Zk ?_
 refine Zq (Zr ?_)
 refine Zm ?_
 obtain ⟨y20_3, ey20_3, hS⟩ := bd_s hS
 refine VL.callO (codec_Of_ct q12_2_0 ey20_3) rfl (by decide) ?_
 rintro ⟨q20_3_0, q20_3_1⟩ rfl
 try dsimp only
 refine VL.q (q_build (vs := [(0, ptr q20_3_0 0)]) (cs := #[ptr q20_3_0 0, .bool false]) rfl (by kernel_rfl)) (by decide) ?_
 refine VL.box (cs := [ptr q20_3_0 0, .bool false]) rfl rfl (by decide) fun b22_4 => ?_
 refine Za ?_
 refine Zl ?_
 refine Zq (Zr ?_)
 refine Zm ?_
 obtain ⟨y24_5, ey24_5, hS⟩ := bd_s hS
 refine VL.callO (object_reader_object_ct b22_4 (⟨false⟩ : ObjectReader) q20_3_0 q20_3_1 ey24_5) rfl (by decide) ?_
 rintro ⟨q24_5_0, q24_5_1, q24_5_2⟩ rfl
 try dsimp only
 refine VL.alloc (cs := [i64 0, .slice none 0 0, .slice none 0 0, i64 0, .slice none 0 0, i64 0, str []]) (by kernel_rfl) (by decide) fun b7_6 => ?_
 refine VL.store (vc := [i64 q24_5_0.kind, q24_5_0.data.val, q24_5_0.items.val, i64 q24_5_0.tree, q24_5_0.parents.val, i64 q24_5_0.time, str q24_5_0.text]) (cs' := [i64 q24_5_0.kind, q24_5_0.data.val, q24_5_0.items.val, i64 q24_5_0.tree, q24_5_0.parents.val, i64 q24_5_0.time, str q24_5_0.text]) rfl rfl rfl gsz34 rfl rfl (Nat.le_of_ble_eq_true rfl) rfl ?_
 refine Zl ?_
 refine VC.keep (ρ' := [(0, b_0.val), (2, ptr b2_1 0), (6, ptr b22_4 0), (7, ptr b7_6 0)]) [0, 2, 6, 7] rfl ?_
 refine Zq (Zq (Zr ?_))
 refine Zm ?_
 refine VL.q (q_nilCheck rfl) (by decide) ?_
 refine VL.q (q_field gfa248_1 rfl) (by decide) ?_
 refine VL.q (q_fe gone4 rfl rfl) (by decide) ?_
 refine Zl ?_
 refine VC.cond rfl (fun h28 => ?_) (fun h28 => ?_)
 ·
  replace hS := it_t h28 hS
  refine Zq (Zr ?_)
  refine VL.q (q_build (vs := []) (cs := #[i64 0, .slice none 0 0, .slice none 0 0, i64 0, .slice none 0 0, i64 0, str []]) rfl (by kernel_rfl)) (by decide) ?_
  refine VL.q (q_mkif Tryz.underlying115 (fun _ h => by cases h) rfl) (by decide) ?_
  obtain ⟨y31_7, ey31_7, hS⟩ := bd_s hS
  refine VL.callF (object_fault_ct 0 (Er.no 2) ey31_7) rfl (by decide) ?_
  rintro q31_7_0 rfl
  try dsimp only
  refine VL.store (vc := [i64 0, .slice none 0 0, .slice none 0 0, i64 0, .slice none 0 0, i64 0, str []]) (cs' := [i64 0, .slice none 0 0, .slice none 0 0, i64 0, .slice none 0 0, i64 0, str []]) rfl rfl rfl gsz34 rfl rfl (Nat.le_of_ble_eq_true rfl) rfl ?_
  refine Za ?_
  refine Zl ?_
  refine VC.keep (ρ' := [(2, ptr b2_1 0), (3, q31_7_0.val)]) [2, 3] rfl ?_
  cases hS
  exact VC.ret (finG (vs := [.agg #[i64 0, .slice none 0 0, .slice none 0 0, i64 0, .slice none 0 0, i64 0, str []], q31_7_0.val]) (.inr rfl) rfl (RVs.cell gagg34 rfl rfl Rd.blk (RVs.tmp rfl (RVs.nil))) (⟨0, ⟨none, 0, []⟩, ⟨none, 0, []⟩, 0, ⟨none, 0, []⟩, 0, []⟩, q31_7_0) rfl rfl (by (try dsimp only); exact InM.out) (fun _ _ => trivial))
 replace hS := it_b h28 hS
 refine Zk ?_
 refine Zq (Zq (Zr ?_))
 refine Zm ?_
 refine VL.q (q_nilCheck rfl) (by decide) ?_
 refine VL.q (q_field gfa248_0 rfl) (by decide) ?_
 refine VL.q (q_fe gone163 rfl rfl) (by decide) ?_
 obtain ⟨y36_8, ey36_8, hS⟩ := bd_s hS
 refine VL.callO (codec_Dec_Err_ct q20_3_0 q24_5_1 ey36_8) rfl (by decide) ?_
 rintro q36_8_0 rfl
 try dsimp only
 refine Za ?_
 refine Zl ?_
 refine VC.keep (ρ' := [(0, b_0.val), (2, ptr b2_1 0), (6, ptr b22_4 0), (7, ptr b7_6 0), (8, q36_8_0.val)]) [0, 2, 6, 7, 8] rfl ?_
 refine Zq (Zr ?_)
 refine Zm ?_
 refine VL.q (q_erne Tryz.underlying29 rfl) (by decide) ?_
 refine Zl ?_
 refine VC.cond_ndec rfl (fun h38 => ?_) (fun h38 => ?_)
 ·
  replace hS := it_f h38 hS
  refine Zq (Zr ?_)
  refine VL.q (q_build (vs := []) (cs := #[i64 0, .slice none 0 0, .slice none 0 0, i64 0, .slice none 0 0, i64 0, str []]) rfl (by kernel_rfl)) (by decide) ?_
  refine Zm ?_
  refine VL.store (vc := [i64 0, .slice none 0 0, .slice none 0 0, i64 0, .slice none 0 0, i64 0, str []]) (cs' := [i64 0, .slice none 0 0, .slice none 0 0, i64 0, .slice none 0 0, i64 0, str []]) rfl rfl rfl gsz34 rfl rfl (Nat.le_of_ble_eq_true rfl) rfl ?_
  refine Za ?_
  refine Zl ?_
  cases hS
  exact VC.ret (finG (vs := [.agg #[i64 0, .slice none 0 0, .slice none 0 0, i64 0, .slice none 0 0, i64 0, str []], q36_8_0.val]) (.inr rfl) rfl (RVs.cell gagg34 rfl rfl Rd.blk (RVs.tmp rfl (RVs.nil))) (⟨0, ⟨none, 0, []⟩, ⟨none, 0, []⟩, 0, ⟨none, 0, []⟩, 0, []⟩, q36_8_0) rfl rfl (by (try dsimp only); exact InM.out) (fun _ _ => trivial))
 replace hS := it_t h38 hS
 refine Zk ?_
 refine Zq (Zq (Zr ?_))
 refine Zm ?_
 refine VL.q (q_nilCheck rfl) (by decide) ?_
 refine VL.q (q_field gfa248_0 rfl) (by decide) ?_
 refine VL.q (q_fe gone163 rfl rfl) (by decide) ?_
 obtain ⟨y45_9, ey45_9, hS⟩ := bd_s hS
 refine VL.q (q_callR (codec_Dec_Left_ct q20_3_0 q24_5_1 ey45_9) rfl (fun _ _ => rfl)) (by decide) ?_
 refine VL.q (q_gtr rfl rfl) (by decide) ?_
 refine Zl ?_
 refine VC.keep (ρ' := [(0, b_0.val), (2, ptr b2_1 0), (7, ptr b7_6 0), (46, .bool (decide (0 < y45_9)))]) [0, 2, 7, 46] rfl ?_
 refine VC.cond_dec rfl (fun h46 => ?_) (fun h46 => ?_)
 ·
  replace hS := it_t h46 hS
  refine Zq (Zr ?_)
  refine VL.q (q_build (vs := []) (cs := #[i64 0, .slice none 0 0, .slice none 0 0, i64 0, .slice none 0 0, i64 0, str []]) rfl (by kernel_rfl)) (by decide) ?_
  refine VL.q (q_mkif Tryz.underlying115 (fun _ h => by cases h) rfl) (by decide) ?_
  obtain ⟨y49_10, ey49_10, hS⟩ := bd_s hS
  refine VL.callF (object_fault_ct 0 (Er.no 2) ey49_10) rfl (by decide) ?_
  rintro q49_10_0 rfl
  try dsimp only
  refine VL.store (vc := [i64 0, .slice none 0 0, .slice none 0 0, i64 0, .slice none 0 0, i64 0, str []]) (cs' := [i64 0, .slice none 0 0, .slice none 0 0, i64 0, .slice none 0 0, i64 0, str []]) rfl rfl rfl gsz34 rfl rfl (Nat.le_of_ble_eq_true rfl) rfl ?_
  refine Za ?_
  refine Zl ?_
  cases hS
  exact VC.ret (finG (vs := [.agg #[i64 0, .slice none 0 0, .slice none 0 0, i64 0, .slice none 0 0, i64 0, str []], q49_10_0.val]) (.inr rfl) rfl (RVs.cell gagg34 rfl rfl Rd.blk (RVs.tmp rfl (RVs.nil))) (⟨0, ⟨none, 0, []⟩, ⟨none, 0, []⟩, 0, ⟨none, 0, []⟩, 0, []⟩, q49_10_0) rfl rfl (by (try dsimp only); exact InM.out) (fun _ _ => trivial))
 replace hS := it_f h46 hS
 refine Zk ?_
 refine Zq (Zr ?_)
 refine VL.q (q_fes gagg34 rfl rfl) (by decide) ?_
 obtain ⟨y52_11, ey52_11, hS⟩ := bd_s hS
 refine VL.callO (object_Encode_ct q24_5_0 ey52_11) rfl (by decide) ?_
 rintro ⟨q52_11_0, q52_11_1⟩ rfl
 try dsimp only
 refine Zm ?_
 refine VL.q (q_extract rfl rfl) (by decide) ?_
 refine VL.q (q_extract rfl rfl) (by decide) ?_
 refine Za ?_
 refine Za ?_
 refine Zl ?_
 refine Zq (Zq (Zr ?_))
 refine Zm ?_
 refine VL.q (q_erne Tryz.underlying29 rfl) (by decide) ?_
 refine Zl ?_
 refine VC.keep (ρ' := [(0, b_0.val), (2, ptr b2_1 0), (7, ptr b7_6 0), (9, q52_11_0.val), (5, q52_11_1.val), (56, .bool (!decide (q52_11_1.pl.isNil = true)))]) [0, 2, 7, 9, 5, 56] rfl ?_
 refine VC.cond_ndec rfl (fun h56 => ?_) (fun h56 => ?_)
 ·
  replace hS := it_f h56 hS
  refine Zq (Zr ?_)
  refine VL.q (q_build (vs := []) (cs := #[i64 0, .slice none 0 0, .slice none 0 0, i64 0, .slice none 0 0, i64 0, str []]) rfl (by kernel_rfl)) (by decide) ?_
  refine Zm ?_
  refine VL.store (vc := [i64 0, .slice none 0 0, .slice none 0 0, i64 0, .slice none 0 0, i64 0, str []]) (cs' := [i64 0, .slice none 0 0, .slice none 0 0, i64 0, .slice none 0 0, i64 0, str []]) rfl rfl rfl gsz34 rfl rfl (Nat.le_of_ble_eq_true rfl) rfl ?_
  refine Za ?_
  refine Zl ?_
  cases hS
  exact VC.ret (finG (vs := [.agg #[i64 0, .slice none 0 0, .slice none 0 0, i64 0, .slice none 0 0, i64 0, str []], q52_11_1.val]) (.inr rfl) rfl (RVs.cell gagg34 rfl rfl Rd.blk (RVs.tmp rfl (RVs.nil))) (⟨0, ⟨none, 0, []⟩, ⟨none, 0, []⟩, 0, ⟨none, 0, []⟩, 0, []⟩, q52_11_1) rfl rfl (by (try dsimp only); exact InM.out) (fun _ _ => trivial))
 replace hS := it_t h56 hS
 refine Zk ?_
 refine Zq (Zq (Zr ?_))
 refine Zm ?_
 refine Zm ?_
 obtain ⟨y61_12, ey61_12, hS⟩ := bd_s hS
 refine VL.q (q_callR (bytes_Equal_ct q52_11_0 b_0 ey61_12) rfl (fun _ _ => rfl)) (by decide) ?_
 refine VL.q (q_not rfl) (by decide) ?_
 refine Zl ?_
 refine VC.cond rfl (fun h62 => ?_) (fun h62 => ?_)
 ·
  replace hS := it_t h62 hS
  refine Zq (Zr ?_)
  refine VL.q (q_build (vs := []) (cs := #[i64 0, .slice none 0 0, .slice none 0 0, i64 0, .slice none 0 0, i64 0, str []]) rfl (by kernel_rfl)) (by decide) ?_
  refine VL.q (q_mkif Tryz.underlying115 (fun _ h => by cases h) rfl) (by decide) ?_
  obtain ⟨y65_13, ey65_13, hS⟩ := bd_s hS
  refine VL.callF (object_fault_ct 0 (Er.no 2) ey65_13) rfl (by decide) ?_
  rintro q65_13_0 rfl
  try dsimp only
  refine VL.store (vc := [i64 0, .slice none 0 0, .slice none 0 0, i64 0, .slice none 0 0, i64 0, str []]) (cs' := [i64 0, .slice none 0 0, .slice none 0 0, i64 0, .slice none 0 0, i64 0, str []]) rfl rfl rfl gsz34 rfl rfl (Nat.le_of_ble_eq_true rfl) rfl ?_
  refine Za ?_
  refine Zl ?_
  refine VC.keep (ρ' := [(2, ptr b2_1 0), (3, q65_13_0.val)]) [2, 3] rfl ?_
  cases hS
  exact VC.ret (finG (vs := [.agg #[i64 0, .slice none 0 0, .slice none 0 0, i64 0, .slice none 0 0, i64 0, str []], q65_13_0.val]) (.inr rfl) rfl (RVs.cell gagg34 rfl rfl Rd.blk (RVs.tmp rfl (RVs.nil))) (⟨0, ⟨none, 0, []⟩, ⟨none, 0, []⟩, 0, ⟨none, 0, []⟩, 0, []⟩, q65_13_0) rfl rfl (by (try dsimp only); exact InM.out) (fun _ _ => trivial))
 replace hS := it_b h62 hS
 refine Zk ?_
 refine Zq (Zr ?_)
 refine VL.q (q_fes gagg34 rfl rfl) (by decide) ?_
 refine VL.store (vc := [i64 q24_5_0.kind, q24_5_0.data.val, q24_5_0.items.val, i64 q24_5_0.tree, q24_5_0.parents.val, i64 q24_5_0.time, str q24_5_0.text]) (cs' := [i64 q24_5_0.kind, q24_5_0.data.val, q24_5_0.items.val, i64 q24_5_0.tree, q24_5_0.parents.val, i64 q24_5_0.time, str q24_5_0.text]) rfl rfl rfl gsz34 rfl rfl (Nat.le_of_ble_eq_true rfl) rfl ?_
 refine Za ?_
 refine Zl ?_
 refine VC.keep (ρ' := [(2, ptr b2_1 0), (3, .nilIface)]) [2, 3] rfl ?_
 cases hS
 exact VC.ret (finG (vs := [.agg #[i64 q24_5_0.kind, q24_5_0.data.val, q24_5_0.items.val, i64 q24_5_0.tree, q24_5_0.parents.val, i64 q24_5_0.time, str q24_5_0.text], .nilIface]) (.inr rfl) rfl (RVs.cell gagg34 rfl rfl Rd.blk (RVs.tmp rfl (RVs.nil))) (⟨q24_5_0.kind, q24_5_0.data, q24_5_0.items, q24_5_0.tree, q24_5_0.parents, q24_5_0.time, q24_5_0.text⟩, .nil) rfl rfl (by (try dsimp only); exact InM.out) (fun _ _ => trivial))
theorem store_Load_ct (b_0 : Sv UInt8) {r : (Unit × Err) ⊕ (StoreStoreP × Unit)} (hS : Sh.store_Load b_0.l = some r) :
 Ct Tryz.prog 52 [b_0.val] b_0.ok (Ow.emp) (X := (Er) ⊕ (Nat × StoreStore)) (fun x => match x with | .inl x => .tuple #[.pointer none, x.val] | .inr x => .tuple #[ptr x.1 0, .nilIface]) (fun x => match x with | .inl x => r = .inl ((), x.pl) | .inr x => r = .inr (x.2.pl, ())) (fun x => match x with | .inl x => x.ok | .inr x => (MAl x.2.l.l)) (fun x => match x with | .inl x => Ow.emp | .inr x => Ow.star (Blk x.1 [x.2.l.val, x.2.by_.val] 109) (Ow.star (Sv.own x.2.l 34) (Mv.own x.2.by_ Tryz.prog 9 3 kStr kInt))) := by
 refine Ct.of Tryz.func52 rfl (by kernel_rfl) Tryz.ntmps52 (by simp) fun c => ?_
 unfold Sh.store_Load at hS
 refine Zq (Zr ?_)
 refine Za ?_
 refine Za ?_
 refine Zl ?_
 refine Zq (Zr ?_)
 refine Zm ?_
 obtain ⟨y14_1, ey14_1, hS⟩ := bd_s hS
 refine VL.callO (codec_Of_ct b_0 ey14_1) rfl (by decide) ?_
 rintro ⟨q14_1_0, q14_1_1⟩ rfl
 try dsimp only
 refine Za ?_
 refine Zl ?_
 refine Zq (Zr ?_)
 refine Zm ?_
 obtain ⟨y16_2, ey16_2, hS⟩ := bd_s hS
 refine VL.callO (codec_Dec_Int_ct q14_1_0 q14_1_1 ey16_2) rfl (by decide) ?_
 rintro ⟨q16_2_0, q16_2_1⟩ rfl
 try dsimp only
 refine Za ?_
 refine Zl ?_
 refine Zq ?_
 refine VC.cutJ (S := Bool) (fun (x22_3 : Bool) => x22_3) (fun (x22_3 : Bool) => [(4, ptr q14_1_0 0), (5, i64 q16_2_0), (22, .bool x22_3)]) (fun (x22_3 : Bool) => Mo.tt) (fun (x22_3 : Bool) => Ow.star (Blk q14_1_0 [q16_2_1.b.val, i64 q16_2_1.at_, q16_2_1.err.val] 239) (Ow.emp)) hS ?_ ?_
 ·
  clear hS
  intro k4 hS
  refine Zr ?_
  refine Zm ?_
  refine VL.q (q_lss rfl rfl) (by decide) ?_
  refine Zm ?_
  refine VL.split_dec 19 rfl (fun h19 => ?_) (fun h19 => ?_)
  ·
   replace hS := it_t h19 hS
   refine VL.runs 3 [(22, some true)] (by kernel_rfl) ?_
   refine VL.mt true [4, 5, 22] (fun _ _ h => h) hS rfl
  replace hS := it_f h19 hS
  refine Zg ?_
  refine VL.gy rfl rfl (q_gtr rfl rfl) (by decide) ?_
  refine Zf ?_
  refine VL.mt (decide (4096 < q16_2_0)) [4, 5, 22] (fun _ _ h => h) hS rfl
 clear hS
 rintro x22_3 hS
 show VC _ _ _ _ _ [(4, ptr q14_1_0 0), (5, i64 q16_2_0), (22, .bool x22_3)] (Mo.and Mo.tt _) (Ow.star (Blk q14_1_0 [q16_2_1.b.val, i64 q16_2_1.at_, q16_2_1.err.val] 239) (Ow.emp))
 refine VC.cond rfl (fun h22 => ?_) (fun h22 => ?_)
 ·
  replace hS := it_t h22 hS
  refine Zq (Zr ?_)
  refine VL.q (q_mkif Tryz.underlying115 (fun _ h => by cases h) rfl) (by decide) ?_
  refine Za ?_
  refine Za ?_
  refine Zl ?_
  cases hS
  exact VC.ret (fin2 (.inr rfl) rfl rfl rfl (.inl (Er.no 2)) rfl rfl (by (try dsimp only); exact InM.out) (by (try dsimp only); exact EntO.out))
 replace hS := it_b h22 hS
 refine Zk ?_
 refine Zq (Zr ?_)
 obtain ⟨y24_5, ey24_5, hS⟩ := bd_s hS
 refine VL.callO (store_New_ct ey24_5) rfl (by decide) ?_
 rintro ⟨q24_5_0, q24_5_1⟩ rfl
 try dsimp only
 refine Za ?_
 refine Zl ?_
 refine VC.cutJ (S := Sv ObjectObject × Mv Str Int × Sv UInt8 × Int × Er) (fun sg => ((sg.1.l.map ObjectObject.pl), sg.2.1.l, sg.2.2.1.l, sg.2.2.2.1, sg.2.2.2.2.pl)) (fun sg => [(4, ptr q14_1_0 0), (6, ptr q24_5_0 0)]) (fun sg => ((MAl sg.1.l).and (sg.2.2.1.ok.and sg.2.2.2.2.ok))) (fun sg => Ow.star (Blk q24_5_0 [sg.1.val, sg.2.1.val] 109) (Ow.star (Blk q14_1_0 [sg.2.2.1.val, i64 sg.2.2.2.1, sg.2.2.2.2.val] 239) (Ow.star (Sv.own sg.1 34) (Ow.star (Mv.own sg.2.1 Tryz.prog 9 3 kStr kInt) (Ow.emp))))) hS ?_ ?_
 ·
  clear hS
  intro k11 hS
  refine Zq (Zr ?_)
  refine Zm ?_
  refine Zm ?_
  refine Zl ?_
  refine Zb ?_
  refine VC.iter (S := Int × Sv ObjectObject × Mv Str Int × Sv UInt8 × Int × Er) (fun sg => (sg.1, (sg.2.1.l.map ObjectObject.pl), sg.2.2.1.l, sg.2.2.2.1.l, sg.2.2.2.2.1, sg.2.2.2.2.2.pl)) (fun sg => [(4, ptr q14_1_0 0), (6, ptr q24_5_0 0), (25, i64 q16_2_0), (26, i64 sg.1)]) (fun sg => ((MAl sg.2.1.l).and (sg.2.2.2.1.ok.and sg.2.2.2.2.2.ok))) (fun sg => Ow.star (Blk q24_5_0 [sg.2.1.val, sg.2.2.1.val] 109) (Ow.star (Blk q14_1_0 [sg.2.2.2.1.val, i64 sg.2.2.2.2.1, sg.2.2.2.2.2.val] 239) (Ow.star (Sv.own sg.2.1 34) (Ow.star (Mv.own sg.2.2.1 Tryz.prog 9 3 kStr kInt) (Ow.emp))))) (0, q24_5_1.l, q24_5_1.by_, q16_2_1.b, q16_2_1.at_, q16_2_1.err) [4, 6, 25, 26] hS rfl ?_
  clear hS
  rintro ⟨x26_12, c0_13, c1_14, c0_15, c1_16, c2_17⟩ m1 y1 hS hK1
  show VC _ _ _ _ _ [(4, ptr q14_1_0 0), (6, ptr q24_5_0 0), (25, i64 q16_2_0), (26, i64 x26_12)] (Mo.and ((MAl c0_13.l).and (c0_15.ok.and c2_17.ok)) _) (Ow.star (Blk q24_5_0 [c0_13.val, c1_14.val] 109) (Ow.star (Blk q14_1_0 [c0_15.val, i64 c1_16, c2_17.val] 239) (Ow.star (Sv.own c0_13 34) (Ow.star (Mv.own c1_14 Tryz.prog 9 3 kStr kInt) (Ow.emp)))))
  refine Zq (Zr ?_)
  refine VL.q (q_lss rfl rfl) (by decide) ?_
  refine Zl ?_
  refine Zq ?_
  refine VC.cond_dec rfl (fun h27 => ?_) (fun h27 => ?_)
  ·
   replace hS := it_t h27 hS
   refine Zk ?_
   refine Zq (Zb (Zq (Zr ?_)))
   refine Zm ?_
   refine Za ?_
   refine Zl ?_
   refine Zq (Zr ?_)
   refine Zm ?_
   obtain ⟨y31_18, ey31_18, hS⟩ := bd_s hS
   refine VL.callO (codec_Dec_Text_ct q14_1_0 (⟨c0_15, c1_16, c2_17⟩ : CodecDec) ey31_18) rfl (by decide) ?_
   rintro ⟨q31_18_0, q31_18_1⟩ rfl
   try dsimp only
   obtain ⟨b32, hS⟩ := gd_s hS
   refine VL.s2b Tryz.underlying9 Tryz.underlying27 Tryz.underlying5 rfl b32 (by decide) fun s32_19 hs32_19 => ?_
   replace hS := lt_to hs32_19 hS
   obtain ⟨y33_21, ey33_21, hS⟩ := bd_s hS
   refine VL.callF (object_Decode_ct s32_19 ey33_21) rfl (by decide) ?_
   rintro ⟨q33_21_0, q33_21_1⟩ rfl
   try dsimp only
   refine Zm ?_
   refine VL.q (q_extract rfl rfl) (by decide) ?_
   refine VL.q (q_extract rfl rfl) (by decide) ?_
   refine VL.alloc (cs := [i64 0, .slice none 0 0, .slice none 0 0, i64 0, .slice none 0 0, i64 0, str []]) (by kernel_rfl) (by decide) fun b8_22 => ?_
   refine VL.store (vc := [i64 q33_21_0.kind, q33_21_0.data.val, q33_21_0.items.val, i64 q33_21_0.tree, q33_21_0.parents.val, i64 q33_21_0.time, str q33_21_0.text]) (cs' := [i64 q33_21_0.kind, q33_21_0.data.val, q33_21_0.items.val, i64 q33_21_0.tree, q33_21_0.parents.val, i64 q33_21_0.time, str q33_21_0.text]) rfl rfl rfl gsz34 rfl rfl (Nat.le_of_ble_eq_true rfl) rfl ?_
   refine Za ?_
   refine Zl ?_
   refine VC.keep (ρ' := [(4, ptr q14_1_0 0), (6, ptr q24_5_0 0), (25, i64 q16_2_0), (26, i64 x26_12), (7, i64 x26_12), (8, ptr b8_22 0), (9, q33_21_1.val)]) [4, 6, 25, 26, 7, 8, 9] rfl ?_
   refine Zq (Zq (Zr ?_))
   refine Zm ?_
   obtain ⟨y37_23, ey37_23, hS⟩ := bd_s hS
   refine VL.callO (codec_Dec_Err_ct q14_1_0 q31_18_1 ey37_23) rfl (by decide) ?_
   rintro q37_23_0 rfl
   try dsimp only
   refine VL.q (q_erne Tryz.underlying29 rfl) (by decide) ?_
   refine Zl ?_
   refine VC.cond_ndec rfl (fun h38 => ?_) (fun h38 => ?_)
   ·
    replace hS := it_f h38 hS
    replace hS := up2 hS hK1
    refine VC.exit_mt (c0_13, c1_14, q31_18_1.b, q31_18_1.at_, q31_18_1.err) [4, 6] (fun _ _ h => h) hS rfl
   replace hS := it_t h38 hS
   refine Zk ?_
   refine Zq (Zq (Zr ?_))
   refine Zm ?_
   refine VL.q (q_erne Tryz.underlying29 rfl) (by decide) ?_
   refine Zl ?_
   refine VC.cond_ndec rfl (fun h40 => ?_) (fun h40 => ?_)
   ·
    replace hS := it_f h40 hS
    refine Zq (Zr ?_)
    refine Zm ?_
    refine Za ?_
    refine Za ?_
    refine Zl ?_
    refine VC.keep (ρ' := [(2, .pointer none), (3, q33_21_1.val)]) [2, 3] rfl ?_
    replace hS := up2 hS hK1
    cases hS
    exact VC.ret (fin2 (.inr rfl) rfl rfl rfl (.inl q33_21_1) rfl rfl (by (try dsimp only); exact InM.out) (by (try dsimp only); exact EntO.out))
   replace hS := it_t h40 hS
   refine Zk ?_
   refine Zq (Zr ?_)
   refine Zm ?_
   refine VL.q (q_fes gagg34 rfl rfl) (by decide) ?_
   obtain ⟨y45_24, ey45_24, hS⟩ := bd_s hS
   refine VL.callO (store_Store_Put_ct q24_5_0 (⟨c0_13, c1_14⟩ : StoreStore) q33_21_0 ey45_24) rfl (by decide) ?_
   rintro ⟨q45_24_0, q45_24_1, q45_24_2⟩ rfl
   try dsimp only
   refine Zm ?_
   refine VL.q (q_extract rfl rfl) (by decide) ?_
   refine VL.q (q_extract rfl rfl) (by decide) ?_
   refine Za ?_
   refine Za ?_
   refine Zl ?_
   refine VC.keep (ρ' := [(4, ptr q14_1_0 0), (6, ptr q24_5_0 0), (25, i64 q16_2_0), (26, i64 x26_12), (7, i64 x26_12), (10, i64 q45_24_0), (11, q45_24_1.val)]) [4, 6, 25, 26, 7, 10, 11] rfl ?_
   refine VC.cutJ (S := Bool) (fun (x55_25 : Bool) => x55_25) (fun (x55_25 : Bool) => [(4, ptr q14_1_0 0), (6, ptr q24_5_0 0), (25, i64 q16_2_0), (26, i64 x26_12), (55, .bool x55_25)]) (fun (x55_25 : Bool) => Mo.tt) (fun (x55_25 : Bool) => Ow.star (Blk q24_5_0 [q45_24_2.l.val, q45_24_2.by_.val] 109) (Ow.star (Blk b8_22 [i64 q33_21_0.kind, q33_21_0.data.val, q33_21_0.items.val, i64 q33_21_0.tree, q33_21_0.parents.val, i64 q33_21_0.time, str q33_21_0.text] 34) (Ow.star (Blk q14_1_0 [q31_18_1.b.val, i64 q31_18_1.at_, q31_18_1.err.val] 239) (Ow.star (Mv.own q45_24_2.by_ Tryz.prog 9 3 kStr kInt) (Ow.star (Sv.own q45_24_2.l 34) (Ow.emp)))))) hS ?_ ?_
   ·
    clear hS
    intro k26 hS
    refine Zr ?_
    refine Zm ?_
    refine VL.q (q_erne Tryz.underlying29 rfl) (by decide) ?_
    refine Zm ?_
    refine VL.split_ndec 50 rfl (fun h50 => ?_) (fun h50 => ?_)
    ·
     replace hS := it_f h50 hS
     refine VL.runs 5 [(55, some true)] (by kernel_rfl) ?_
     refine VL.mt true [4, 6, 25, 26, 55] (fun _ _ h => h) hS rfl
    replace hS := it_t h50 hS
    refine Zg ?_
    refine Zg ?_
    obtain ⟨b53, hS⟩ := gd_s hS
    refine VL.gy rfl rfl (q_add rfl rfl b53) (by decide) ?_
    refine VL.gy rfl rfl (q_neq rfl rfl) (by decide) ?_
    refine Zf ?_
    refine VL.mt (!decide (q45_24_0 = (x26_12 + 1))) [4, 6, 25, 26, 55] (fun _ _ h => h) hS rfl
   clear hS
   rintro x55_25 hS
   show VC _ _ _ _ _ [(4, ptr q14_1_0 0), (6, ptr q24_5_0 0), (25, i64 q16_2_0), (26, i64 x26_12), (55, .bool x55_25)] (Mo.and Mo.tt _) (Ow.star (Blk q24_5_0 [q45_24_2.l.val, q45_24_2.by_.val] 109) (Ow.star (Blk b8_22 [i64 q33_21_0.kind, q33_21_0.data.val, q33_21_0.items.val, i64 q33_21_0.tree, q33_21_0.parents.val, i64 q33_21_0.time, str q33_21_0.text] 34) (Ow.star (Blk q14_1_0 [q31_18_1.b.val, i64 q31_18_1.at_, q31_18_1.err.val] 239) (Ow.star (Mv.own q45_24_2.by_ Tryz.prog 9 3 kStr kInt) (Ow.star (Sv.own q45_24_2.l 34) (Ow.emp))))))
   refine VC.cond rfl (fun h55 => ?_) (fun h55 => ?_)
   ·
    replace hS := it_t h55 hS
    refine Zq (Zr ?_)
    refine VL.q (q_mkif Tryz.underlying115 (fun _ h => by cases h) rfl) (by decide) ?_
    refine Za ?_
    refine Za ?_
    refine Zl ?_
    replace hS := up2 hS hK1
    cases hS
    exact VC.ret (fin2 (.inr rfl) rfl rfl rfl (.inl (Er.no 2)) rfl rfl (by (try dsimp only); exact InM.out) (by (try dsimp only); exact EntO.out))
   replace hS := it_b h55 hS
   refine Zk ?_
   refine Zr ?_
   obtain ⟨b57, hS⟩ := gd_s hS
   refine VL.q (q_add rfl rfl b57) (by decide) ?_
   refine Zm ?_
   refine VL.rnd ((x26_12 + 1), q45_24_2.l, q45_24_2.by_, q31_18_1.b, q31_18_1.at_, q31_18_1.err) [4, 6, 25, 26] (fun _ _ h => h) (go2 hS hK1) rfl
  replace hS := it_f h27 hS
  replace hS := up2 hS hK1
  refine VC.exit_mt (c0_13, c1_14, c0_15, c1_16, c2_17) [4, 6] (fun _ _ h => h) hS rfl
 clear hS
 rintro ⟨c0_6, c1_7, c0_8, c1_9, c2_10⟩ hS
 show VC _ _ _ _ _ [(4, ptr q14_1_0 0), (6, ptr q24_5_0 0)] (Mo.and ((MAl c0_6.l).and (c0_8.ok.and c2_10.ok)) _) (Ow.star (Blk q24_5_0 [c0_6.val, c1_7.val] 109) (Ow.star (Blk q14_1_0 [c0_8.val, i64 c1_9, c2_10.val] 239) (Ow.star (Sv.own c0_6 34) (Ow.star (Mv.own c1_7 Tryz.prog 9 3 kStr kInt) (Ow.emp)))))
 refine Zq (Zq (Zr ?_))
 refine Zm ?_
 obtain ⟨y59_27, ey59_27, hS⟩ := bd_s hS
 refine VL.callO (codec_Dec_Err_ct q14_1_0 (⟨c0_8, c1_9, c2_10⟩ : CodecDec) ey59_27) rfl (by decide) ?_
 rintro q59_27_0 rfl
 try dsimp only
 refine Za ?_
 refine Zl ?_
 refine Zq (Zr ?_)
 refine Zm ?_
 refine VL.q (q_erne Tryz.underlying29 rfl) (by decide) ?_
 refine Zl ?_
 refine VC.cond_ndec rfl (fun h61 => ?_) (fun h61 => ?_)
 ·
  replace hS := it_f h61 hS
  refine Zq (Zr ?_)
  refine Zm ?_
  refine Za ?_
  refine Za ?_
  refine Zl ?_
  cases hS
  exact VC.ret (fin2 (.inr rfl) rfl rfl rfl (.inl q59_27_0) rfl rfl (by (try dsimp only); exact InM.out) (by (try dsimp only); exact EntO.out))
 replace hS := it_t h61 hS
 refine Zk ?_
 refine Zq (Zq (Zr ?_))
 refine Zm ?_
 obtain ⟨y64_28, ey64_28, hS⟩ := bd_s hS
 refine VL.q (q_callR (codec_Dec_Left_ct q14_1_0 (⟨c0_8, c1_9, c2_10⟩ : CodecDec) ey64_28) rfl (fun _ _ => rfl)) (by decide) ?_
 refine VL.q (q_gtr rfl rfl) (by decide) ?_
 refine Zl ?_
 refine VC.cond_dec rfl (fun h65 => ?_) (fun h65 => ?_)
 ·
  replace hS := it_t h65 hS
  refine Zq (Zr ?_)
  refine VL.q (q_mkif Tryz.underlying115 (fun _ h => by cases h) rfl) (by decide) ?_
  refine Za ?_
  refine Za ?_
  refine Zl ?_
  refine VC.keep (ρ' := [(2, .pointer none), (3, (Er.no 2).val)]) [2, 3] rfl ?_
  cases hS
  exact VC.ret (fin2 (.inr rfl) rfl rfl rfl (.inl (Er.no 2)) rfl rfl (by (try dsimp only); exact InM.out) (by (try dsimp only); exact EntO.out))
 replace hS := it_f h65 hS
 refine Zk ?_
 refine Zq (Zr ?_)
 refine Zm ?_
 refine Za ?_
 refine Za ?_
 refine Zl ?_
 refine VC.keep (ρ' := [(2, ptr q24_5_0 0), (3, .nilIface)]) [2, 3] rfl ?_
 cases hS
 exact VC.ret (fin2 (.inr rfl) rfl rfl rfl (.inr (q24_5_0, ⟨c0_6, c1_7⟩)) rfl rfl (by (try dsimp only); exact InM.out) (by (try dsimp only); exact EntO.out))
theorem slices_Equal_object_Item_object_Item_ct (s1_0 : Sv ObjectItem) (s2_1 : Sv ObjectItem) {r : Bool} (hS : Sh.slices_Equal_object_Item_object_Item s1_0.l s2_1.l = some r) :
 Ct Tryz.prog 115 [s1_0.val, s2_1.val] (s1_0.ok.and s2_1.ok) (Ow.emp) (X := Unit) (fun _ => .bool r) (fun _ => True) (fun _ => Mo.tt) (fun _ => Ow.emp) := by
 refine Ct.of Tryz.func115 rfl (by kernel_rfl) Tryz.ntmps115 (by simp) fun c => ?_
 unfold Sh.slices_Equal_object_Item_object_Item at hS
 refine Zq (Zr ?_)
 refine Za ?_
 refine Zl ?_
 refine Zq (Zq (Zr ?_))
 refine Zm ?_
 refine VL.q (q_ln (s := s1_0) Tryz.underlying32 rfl) (by decide) ?_
 refine Zm ?_
 refine VL.q (q_ln (s := s2_1) Tryz.underlying32 rfl) (by decide) ?_
 refine VL.q (q_neq rfl rfl) (by decide) ?_
 refine Zl ?_
 refine VC.cond_ndec rfl (fun h10 => ?_) (fun h10 => ?_)
 ·
  replace hS := it_f h10 hS
  refine Zq (Zr ?_)
  refine Za ?_
  refine Zl ?_
  cases hS
  exact Ze
 replace hS := it_t h10 hS
 refine Zk ?_
 refine Zq (Zq (Zr ?_))
 refine Zm ?_
 refine VL.q (q_ln (s := s1_0) Tryz.underlying32 rfl) (by decide) ?_
 refine Zm ?_
 refine Zl ?_
 refine VC.keep (ρ' := [(0, s1_0.val), (1, s2_1.val), (12, i64 (s1_0.l.length : Int)), (13, i64 0)]) [0, 1, 12, 13] rfl ?_
 refine Zb ?_
 refine VC.iter (S := Int) (fun (x13_1 : Int) => x13_1) (fun (x13_1 : Int) => [(0, s1_0.val), (1, s2_1.val), (12, i64 (s1_0.l.length : Int)), (13, i64 x13_1)]) (fun (x13_1 : Int) => Mo.tt) (fun (x13_1 : Int) => Ow.emp) 0 [0, 1, 12, 13] hS rfl ?_
 clear hS
 rintro x13_1 m1 y1 hS hK1
 show VC _ _ _ _ _ [(0, s1_0.val), (1, s2_1.val), (12, i64 (s1_0.l.length : Int)), (13, i64 x13_1)] (Mo.and Mo.tt _) (Ow.emp)
 refine Zq (Zr ?_)
 refine VL.q (q_lss rfl rfl) (by decide) ?_
 refine Zl ?_
 refine Zq ?_
 refine VC.cond_dec rfl (fun h14 => ?_) (fun h14 => ?_)
 ·
  replace hS := it_t h14 hS
  refine Zk ?_
  refine Zq (Zb (Zq (Zr ?_)))
  refine Zm ?_
  refine Za ?_
  refine Zl ?_
  refine Zq ?_
  refine VC.draw ((List.range 9).map fun k => (k, true)) mixed (by kernel_rfl) (by kernel_rfl) (by kernel_rfl) ?_
  refine VD.q rfl (q_move rfl) (by decide) ?_
  refine VD.q rfl (q_move rfl) (by decide) ?_
  obtain ⟨z18_2, nz18_2, hz18_2, hS⟩ := at_s hS
  refine VD.q rfl (q_ixm (s := s1_0) Tryz.underlying32 gsz96 rfl rfl nz18_2 (lt_of_get nz18_2 hz18_2)) (by decide) ?_
  refine VD.q rfl (q_els (s := s1_0) gagg96 rfl rfl hz18_2) (by decide) ?_
  refine VD.q rfl (q_move rfl) (by decide) ?_
  refine VD.q rfl (q_move rfl) (by decide) ?_
  obtain ⟨z22_3, nz22_3, hz22_3, hS⟩ := at_s hS
  refine VD.q rfl (q_ixm (s := s2_1) Tryz.underlying32 gsz96 rfl rfl nz22_3 (lt_of_get nz22_3 hz22_3)) (by decide) ?_
  refine VD.q rfl (q_els (s := s2_1) gagg96 rfl rfl hz22_3) (by decide) ?_
  refine VD.q rfl (q_stneq geqg96 (geqs96 z18_2.path z18_2.mode z18_2.blob z22_3.path z22_3.mode z22_3.blob) rfl rfl) (by decide) ?_
  refine VD.to (fun _ _ h => h) ?_
  refine VC.keep (ρ' := [(0, s1_0.val), (1, s2_1.val), (12, i64 (s1_0.l.length : Int)), (13, i64 x13_1), (24, .bool (!decide (z18_2.path = z22_3.path ∧ z18_2.mode = z22_3.mode ∧ z18_2.blob = z22_3.blob)))]) [0, 1, 12, 13, 24] rfl ?_
  refine VC.cond_ndec rfl (fun h24 => ?_) (fun h24 => ?_)
  ·
   replace hS := it_f h24 hS
   refine Zq (Zr ?_)
   refine Za ?_
   refine Zl ?_
   replace hS := up2 hS hK1
   cases hS
   exact Ze
  replace hS := it_t h24 hS
  refine Zk ?_
  refine Zr ?_
  obtain ⟨b25, hS⟩ := gd_s hS
  refine VL.q (q_add rfl rfl b25) (by decide) ?_
  refine Zm ?_
  refine VL.rnd (x13_1 + 1) [0, 1, 12, 13] (fun _ _ h => h) (go2 hS hK1) rfl
 replace hS := it_f h14 hS
 replace hS := up2 hS hK1
 refine Zx ?_
 refine Zq (Zr ?_)
 refine Za ?_
 refine Zl ?_
 cases hS
 exact Ze
theorem slices_Equal_int_int_ct (s1_0 : Sv Int) (s2_1 : Sv Int) {r : Bool} (hS : Sh.slices_Equal_int_int s1_0.l s2_1.l = some r) :
 Ct Tryz.prog 116 [s1_0.val, s2_1.val] (s1_0.ok.and s2_1.ok) (Ow.emp) (X := Unit) (fun _ => .bool r) (fun _ => True) (fun _ => Mo.tt) (fun _ => Ow.emp) := by
 refine Ct.of Tryz.func116 rfl (by kernel_rfl) Tryz.ntmps116 (by simp) fun c => ?_
 unfold Sh.slices_Equal_int_int at hS
 refine Zq (Zr ?_)
 refine Za ?_
 refine Zl ?_
 refine Zq (Zq (Zr ?_))
 refine Zm ?_
 refine VL.q (q_ln (s := s1_0) Tryz.underlying26 rfl) (by decide) ?_
 refine Zm ?_
 refine VL.q (q_ln (s := s2_1) Tryz.underlying26 rfl) (by decide) ?_
 refine VL.q (q_neq rfl rfl) (by decide) ?_
 refine Zl ?_
 refine VC.cond_ndec rfl (fun h10 => ?_) (fun h10 => ?_)
 ·
  replace hS := it_f h10 hS
  refine Zq (Zr ?_)
  refine Za ?_
  refine Zl ?_
  cases hS
  exact Ze
 replace hS := it_t h10 hS
 refine Zk ?_
 refine Zq (Zq (Zr ?_))
 refine Zm ?_
 refine VL.q (q_ln (s := s1_0) Tryz.underlying26 rfl) (by decide) ?_
 refine Zm ?_
 refine Zl ?_
 refine VC.keep (ρ' := [(0, s1_0.val), (1, s2_1.val), (12, i64 (s1_0.l.length : Int)), (13, i64 0)]) [0, 1, 12, 13] rfl ?_
 refine Zb ?_
 refine VC.iter (S := Int) (fun (x13_1 : Int) => x13_1) (fun (x13_1 : Int) => [(0, s1_0.val), (1, s2_1.val), (12, i64 (s1_0.l.length : Int)), (13, i64 x13_1)]) (fun (x13_1 : Int) => Mo.tt) (fun (x13_1 : Int) => Ow.emp) 0 [0, 1, 12, 13] hS rfl ?_
 clear hS
 rintro x13_1 m1 y1 hS hK1
 show VC _ _ _ _ _ [(0, s1_0.val), (1, s2_1.val), (12, i64 (s1_0.l.length : Int)), (13, i64 x13_1)] (Mo.and Mo.tt _) (Ow.emp)
 refine Zq (Zr ?_)
 refine VL.q (q_lss rfl rfl) (by decide) ?_
 refine Zl ?_
 refine Zq ?_
 refine VC.cond_dec rfl (fun h14 => ?_) (fun h14 => ?_)
 ·
  replace hS := it_t h14 hS
  refine Zk ?_
  refine Zq (Zb (Zq (Zr ?_)))
  refine Zm ?_
  refine Za ?_
  refine Zl ?_
  refine Zq ?_
  refine VC.draw ((List.range 9).map fun k => (k, true)) mixed (by kernel_rfl) (by kernel_rfl) (by kernel_rfl) ?_
  refine VD.q rfl (q_move rfl) (by decide) ?_
  refine VD.q rfl (q_move rfl) (by decide) ?_
  obtain ⟨z18_2, nz18_2, hz18_2, hS⟩ := at_s hS
  refine VD.q rfl (q_ixm (s := s1_0) Tryz.underlying26 gsz3 rfl rfl nz18_2 (lt_of_get nz18_2 hz18_2)) (by decide) ?_
  refine VD.q rfl (q_el (s := s1_0) gone3 rfl hz18_2 rfl) (by decide) ?_
  refine VD.q rfl (q_move rfl) (by decide) ?_
  refine VD.q rfl (q_move rfl) (by decide) ?_
  obtain ⟨z22_3, nz22_3, hz22_3, hS⟩ := at_s hS
  refine VD.q rfl (q_ixm (s := s2_1) Tryz.underlying26 gsz3 rfl rfl nz22_3 (lt_of_get nz22_3 hz22_3)) (by decide) ?_
  refine VD.q rfl (q_el (s := s2_1) gone3 rfl hz22_3 rfl) (by decide) ?_
  refine VD.q rfl (q_neq rfl rfl) (by decide) ?_
  refine VD.to (fun _ _ h => h) ?_
  refine VC.keep (ρ' := [(0, s1_0.val), (1, s2_1.val), (12, i64 (s1_0.l.length : Int)), (13, i64 x13_1), (24, .bool (!decide (z18_2 = z22_3)))]) [0, 1, 12, 13, 24] rfl ?_
  refine VC.cond_ndec rfl (fun h24 => ?_) (fun h24 => ?_)
  ·
   replace hS := it_f h24 hS
   refine Zq (Zr ?_)
   refine Za ?_
   refine Zl ?_
   replace hS := up2 hS hK1
   cases hS
   exact Ze
  replace hS := it_t h24 hS
  refine Zk ?_
  refine Zr ?_
  obtain ⟨b25, hS⟩ := gd_s hS
  refine VL.q (q_add rfl rfl b25) (by decide) ?_
  refine Zm ?_
  refine VL.rnd (x13_1 + 1) [0, 1, 12, 13] (fun _ _ h => h) (go2 hS hK1) rfl
 replace hS := it_f h14 hS
 replace hS := up2 hS hK1
 refine Zx ?_
 refine Zq (Zr ?_)
 refine Za ?_
 refine Zl ?_
 cases hS
 exact Ze
theorem object_Same_ct (a_0 : ObjectObject) (b_1 : ObjectObject) {r : Bool} (hS : Sh.object_Same a_0.pl b_1.pl = some r) :
 Ct Tryz.prog 54 [.agg #[i64 a_0.kind, a_0.data.val, a_0.items.val, i64 a_0.tree, a_0.parents.val, i64 a_0.time, str a_0.text], .agg #[i64 b_1.kind, b_1.data.val, b_1.items.val, i64 b_1.tree, b_1.parents.val, i64 b_1.time, str b_1.text]] (a_0.data.ok.and (a_0.items.ok.and (a_0.parents.ok.and (b_1.data.ok.and (b_1.items.ok.and b_1.parents.ok))))) (Ow.emp) (X := Unit) (fun _ => .bool r) (fun _ => True) (fun _ => Mo.tt) (fun _ => Ow.emp) := by
 refine Ct.of Tryz.func54 rfl (by kernel_rfl) Tryz.ntmps54 (by simp) fun c => ?_
 unfold Sh.object_Same at hS
 refine Zq (Zr ?_)
 refine VL.box (cs := [i64 a_0.kind, a_0.data.val, a_0.items.val, i64 a_0.tree, a_0.parents.val, i64 a_0.time, str a_0.text]) rfl rfl (by decide) fun b2_1 => ?_
 refine VL.box (cs := [i64 b_1.kind, b_1.data.val, b_1.items.val, i64 b_1.tree, b_1.parents.val, i64 b_1.time, str b_1.text]) rfl rfl (by decide) fun b3_2 => ?_
 refine Za ?_
 refine Zl ?_
 refine Zq (Zq (Zr ?_))
 refine VL.q (q_field gfa34_0 rfl) (by decide) ?_
 refine VL.q (q_fe gone3 rfl rfl) (by decide) ?_
 refine VL.q (q_field gfa34_0 rfl) (by decide) ?_
 refine VL.q (q_fe gone3 rfl rfl) (by decide) ?_
 refine VL.q (q_neq rfl rfl) (by decide) ?_
 refine Zl ?_
 refine VC.cond_ndec rfl (fun h9 => ?_) (fun h9 => ?_)
 ·
  replace hS := it_f h9 hS
  refine Zq (Zr ?_)
  refine Za ?_
  refine Zl ?_
  cases hS
  exact Ze
 replace hS := it_t h9 hS
 refine Zk ?_
 refine Zq (Zq (Zr ?_))
 refine VL.q (q_field gfa34_0 rfl) (by decide) ?_
 refine VL.q (q_fe gone3 rfl rfl) (by decide) ?_
 refine Zl ?_
 refine VC.keep (ρ' := [(2, ptr b2_1 0), (3, ptr b3_2 0), (11, i64 a_0.kind)]) [2, 3, 11] rfl ?_
 refine Zb (Zq (Zr ?_))
 refine VL.q (q_eql rfl rfl) (by decide) ?_
 refine Za ?_
 refine Zl ?_
 refine VC.cond_dec rfl (fun h12 => ?_) (fun h12 => ?_)
 ·
  replace hS := it_t h12 hS
  refine Zq (Zr ?_)
  refine VL.q (q_field gfa34_1 rfl) (by decide) ?_
  refine VL.q (q_fe gone27 rfl rfl) (by decide) ?_
  refine VL.q (q_field gfa34_1 rfl) (by decide) ?_
  refine VL.q (q_fe gone27 rfl rfl) (by decide) ?_
  obtain ⟨y18_3, ey18_3, hS⟩ := bd_s hS
  refine VL.q (q_call (bytes_Equal_ct a_0.data b_1.data ey18_3) rfl (fun _ _ => rfl)) (by decide) ?_
  refine Za ?_
  refine Zl ?_
  refine VC.keep (ρ' := [(4, .bool y18_3)]) [4] rfl ?_
  cases hS
  exact Ze
 replace hS := it_f h12 hS
 refine Zq (Zr ?_)
 refine VL.q (q_eql rfl rfl) (by decide) ?_
 refine Za ?_
 refine Zl ?_
 refine VC.cond_dec rfl (fun h19 => ?_) (fun h19 => ?_)
 ·
  replace hS := it_t h19 hS
  refine Zq (Zr ?_)
  refine VL.q (q_field gfa34_2 rfl) (by decide) ?_
  refine VL.q (q_fe gone32 rfl rfl) (by decide) ?_
  refine VL.q (q_field gfa34_2 rfl) (by decide) ?_
  refine VL.q (q_fe gone32 rfl rfl) (by decide) ?_
  obtain ⟨y25_4, ey25_4, hS⟩ := bd_s hS
  refine VL.q (q_call (slices_Equal_object_Item_object_Item_ct a_0.items b_1.items ey25_4) rfl (fun _ _ => rfl)) (by decide) ?_
  refine Za ?_
  refine Zl ?_
  refine VC.keep (ρ' := [(4, .bool y25_4)]) [4] rfl ?_
  cases hS
  exact Ze
 replace hS := it_f h19 hS
 refine Zq (Zr ?_)
 refine VL.q (q_eql rfl rfl) (by decide) ?_
 refine Za ?_
 refine Zl ?_
 refine VC.cond_dec rfl (fun h26 => ?_) (fun h26 => ?_)
 ·
  replace hS := it_t h26 hS
  refine Zq (Zr ?_)
  refine VL.q (q_field gfa34_3 rfl) (by decide) ?_
  refine VL.q (q_fe gone3 rfl rfl) (by decide) ?_
  refine VL.q (q_field gfa34_3 rfl) (by decide) ?_
  refine VL.q (q_fe gone3 rfl rfl) (by decide) ?_
  refine VL.q (q_eql rfl rfl) (by decide) ?_
  refine Zm ?_
  refine VL.split_dec 33 rfl (fun h33 => ?_) (fun h33 => ?_)
  ·
   replace hS := it_t h33 hS
   refine VL.gy rfl rfl (q_field gfa34_4 rfl) (by decide) ?_
   refine VL.gy rfl rfl (q_fe gone26 rfl rfl) (by decide) ?_
   refine VL.gy rfl rfl (q_field gfa34_4 rfl) (by decide) ?_
   refine VL.gy rfl rfl (q_fe gone26 rfl rfl) (by decide) ?_
   obtain ⟨y38_5, ey38_5, hS⟩ := bd_s hS
   refine VL.gy rfl rfl (q_call (slices_Equal_int_int_ct a_0.parents b_1.parents ey38_5) rfl (fun _ _ => rfl)) (by decide) ?_
   refine Zt ?_
   refine Zm ?_
   refine VL.split 40 rfl (fun h40 => ?_) (fun h40 => ?_)
   ·
    replace hS := it_t h40 hS
    refine VL.gy rfl rfl (q_field gfa34_5 rfl) (by decide) ?_
    refine VL.gy rfl rfl (q_fe gone3 rfl rfl) (by decide) ?_
    refine VL.gy rfl rfl (q_field gfa34_5 rfl) (by decide) ?_
    refine VL.gy rfl rfl (q_fe gone3 rfl rfl) (by decide) ?_
    refine VL.gy rfl rfl (q_eql rfl rfl) (by decide) ?_
    refine Zt ?_
    refine Zm ?_
    refine VL.split_dec 47 rfl (fun h47 => ?_) (fun h47 => ?_)
    ·
     replace hS := it_t h47 hS
     refine VL.gy rfl rfl (q_field gfa34_6 rfl) (by decide) ?_
     refine VL.gy rfl rfl (q_fe gone9 rfl rfl) (by decide) ?_
     refine VL.gy rfl rfl (q_field gfa34_6 rfl) (by decide) ?_
     refine VL.gy rfl rfl (q_fe gone9 rfl rfl) (by decide) ?_
     refine VL.gy rfl rfl (q_seq rfl rfl) (by decide) ?_
     refine Zt ?_
     refine Za ?_
     refine Zl ?_
     refine VC.keep (ρ' := [(4, .bool (decide (a_0.text = b_1.text)))]) [4] rfl ?_
     cases hS
     exact Ze
    replace hS := it_f h47 hS
    refine VL.runs 7 [(4, some false)] (by kernel_rfl) ?_
    refine Zl ?_
    refine VC.keep (ρ' := [(4, .bool false)]) [4] rfl ?_
    cases hS
    exact Ze
   replace hS := it_b h40 hS
   refine VL.runs 14 [(4, some false)] (by kernel_rfl) ?_
   refine Zl ?_
   refine VC.keep (ρ' := [(4, .bool false)]) [4] rfl ?_
   cases hS
   exact Ze
  replace hS := it_f h33 hS
  refine VL.runs 21 [(4, some false)] (by kernel_rfl) ?_
  refine Zl ?_
  refine VC.keep (ρ' := [(4, .bool false)]) [4] rfl ?_
  cases hS
  exact Ze
 replace hS := it_f h26 hS
 refine Zk ?_
 refine Zq (Zr ?_)
 refine Za ?_
 refine Zl ?_
 cases hS
 exact Ze
theorem store_Store_Len_ct (s_0_b : Nat) (s_0 : StoreStore) {r : Int} (hS : Sh.store_Store_Len s_0.pl = some r) :
 Ct Tryz.prog 11 [ptr s_0_b 0] (MAl s_0.l.l) (Ow.star (Sv.own s_0.l 34) (Ow.star (Mv.own s_0.by_ Tryz.prog 9 3 kStr kInt) (Blk s_0_b [s_0.l.val, s_0.by_.val] 109))) (X := Unit) (fun _ => i64 r) (fun _ => True) (fun _ => Mo.tt) (fun _ => Ow.star (Blk s_0_b [s_0.l.val, s_0.by_.val] 109) (Ow.star (Sv.own s_0.l 34) (Mv.own s_0.by_ Tryz.prog 9 3 kStr kInt))) := by
 refine Ct.of Tryz.func11 rfl (by kernel_rfl) Tryz.ntmps11 (by simp) fun c => ?_
 unfold Sh.store_Store_Len at hS
 refine Zq (Zr ?_)
 refine Za ?_
 refine Zl ?_
 refine Zq (Zr ?_)
 refine Zm ?_
 refine VL.q (q_nilCheck rfl) (by decide) ?_
 refine VL.q (q_field gfa109_0 rfl) (by decide) ?_
 refine VL.q (q_fe gone107 rfl rfl) (by decide) ?_
 refine VL.q (q_lnm ObjectObject.pl (s := s_0.l) Tryz.underlying107 rfl) (by decide) ?_
 refine Za ?_
 refine Zl ?_
 cases hS
 exact VC.ret (fin1 (.inr rfl) rfl rfl () rfl trivial (fun _ _ => trivial) (by (try dsimp only); exact EntO.out))
theorem rectolaw8_known_ct  {r : Bool} (hS : Sh.rectolaw8_known = some r) :
 Ct Tryz.prog 8 [] Mo.tt (Ow.emp) (X := Unit) (fun _ => .bool r) (fun _ => True) (fun _ => Mo.tt) (fun _ => Ow.emp) := by
 refine Ct.of Tryz.func8 rfl (by kernel_rfl) Tryz.ntmps8 (by simp) fun c => ?_
 unfold Sh.rectolaw8_known at hS
 refine Zq (Zr ?_)
 refine Za ?_
 refine Zl ?_
 refine Zq (Zr ?_)
 obtain ⟨y19_1, ey19_1, hS⟩ := bd_s hS
 refine VL.callO (store_New_ct ey19_1) rfl (by decide) ?_
 rintro ⟨q19_1_0, q19_1_1⟩ rfl
 try dsimp only
 refine Za ?_
 refine Zl ?_
 refine Zq (Zq (Zr ?_))
 refine Zm ?_
 refine VL.q (q_peqn Tryz.underlying24 rfl) (by decide) ?_
 refine Zl ?_
 refine VC.cond_f rfl ?_
 refine Zk ?_
 refine Zq (Zr ?_)
 refine VL.litO (α := UInt8) (xs := [.const (.int .u8 120)]) (vs := [.int .u8 120]) [(120 : UInt8)] Tryz.underlying27 glit5 (by decide) rfl rfl rfl rfl (by decide) (by decide) (fun s22_2 hs22_2 => ?_) (by decide)
 replace hS := lt_to hs22_2 hS
 refine VL.cvB (s := s22_2) Tryz.underlying27 Tryz.underlying5 Fo.out (by rw [hs22_2]; exact List.cons_ne_nil _ _) rfl (by decide) ?_
 refine VL.q (q_build (vs := [(0, i64 1), (1, s22_2.val)]) (cs := #[i64 1, s22_2.val, .slice none 0 0, i64 0, .slice none 0 0, i64 0, str []]) rfl (by kernel_rfl)) (by decide) ?_
 refine VL.alloc (cs := [i64 0, .slice none 0 0, .slice none 0 0, i64 0, .slice none 0 0, i64 0, str []]) (by kernel_rfl) (by decide) fun b2_4 => ?_
 refine VL.store (vc := [i64 1, s22_2.val, .slice none 0 0, i64 0, .slice none 0 0, i64 0, str []]) (cs' := [i64 1, s22_2.val, .slice none 0 0, i64 0, .slice none 0 0, i64 0, str []]) rfl rfl rfl gsz34 rfl rfl (Nat.le_of_ble_eq_true rfl) rfl ?_
 refine Zl ?_
 refine Zq (Zr ?_)
 refine Zm ?_
 refine VL.q (q_fes gagg34 rfl rfl) (by decide) ?_
 obtain ⟨y28_5, ey28_5, hS⟩ := bd_s hS
 refine VL.callO (store_Store_Put_ct q19_1_0 q19_1_1 (⟨1, s22_2, ⟨none, 0, []⟩, 0, ⟨none, 0, []⟩, 0, []⟩ : ObjectObject) ey28_5) rfl (by decide) ?_
 rintro ⟨q28_5_0, q28_5_1, q28_5_2⟩ rfl
 try dsimp only
 refine Zm ?_
 refine VL.q (q_extract rfl rfl) (by decide) ?_
 refine VL.q (q_extract rfl rfl) (by decide) ?_
 refine Za ?_
 refine Za ?_
 refine Zl ?_
 refine VC.keep (ρ' := [(1, ptr q19_1_0 0), (2, ptr b2_4 0), (3, i64 q28_5_0), (4, q28_5_1.val)]) [1, 2, 3, 4] rfl ?_
 refine Zq (Zr ?_)
 refine Zm ?_
 refine VL.q (q_fes gagg34 rfl rfl) (by decide) ?_
 obtain ⟨y34_6, ey34_6, hS⟩ := bd_s hS
 refine VL.callO (store_Store_Put_ct q19_1_0 q28_5_2 (⟨1, s22_2, ⟨none, 0, []⟩, 0, ⟨none, 0, []⟩, 0, []⟩ : ObjectObject) ey34_6) rfl (by decide) ?_
 rintro ⟨q34_6_0, q34_6_1, q34_6_2⟩ rfl
 try dsimp only
 refine Zm ?_
 refine VL.q (q_extract rfl rfl) (by decide) ?_
 refine VL.q (q_extract rfl rfl) (by decide) ?_
 refine Za ?_
 refine Za ?_
 refine Zl ?_
 refine Zq (Zr ?_)
 refine VL.q (q_build (vs := [(0, str [97]), (1, i64 1), (2, i64 1)]) (cs := #[str [97], i64 1, i64 1]) rfl (by kernel_rfl)) (by decide) ?_
 refine VL.lit (α := ObjectItem) (xs := [.tmp 37]) (vs := [.agg #[str [97], i64 1, i64 1]]) [⟨[97], 1, 1⟩] Tryz.underlying32 glit96 (by decide) rfl rfl rfl rfl (by decide) (fun _ _ _ _ => trivial) (by decide) (fun s38_7 hs38_7 => ?_) (by decide)
 replace hS := lt_to hs38_7 hS
 refine VL.q (q_build (vs := [(0, i64 2), (2, s38_7.val)]) (cs := #[i64 2, .slice none 0 0, s38_7.val, i64 0, .slice none 0 0, i64 0, str []]) rfl (by kernel_rfl)) (by decide) ?_
 refine VL.alloc (cs := [i64 0, .slice none 0 0, .slice none 0 0, i64 0, .slice none 0 0, i64 0, str []]) (by kernel_rfl) (by decide) fun b7_9 => ?_
 refine VL.store (vc := [i64 2, .slice none 0 0, s38_7.val, i64 0, .slice none 0 0, i64 0, str []]) (cs' := [i64 2, .slice none 0 0, s38_7.val, i64 0, .slice none 0 0, i64 0, str []]) rfl rfl rfl gsz34 rfl rfl (Nat.le_of_ble_eq_true rfl) rfl ?_
 refine Zl ?_
 refine VC.keep (ρ' := [(1, ptr q19_1_0 0), (2, ptr b2_4 0), (3, i64 q28_5_0), (4, q28_5_1.val), (5, i64 q34_6_0), (6, q34_6_1.val), (7, ptr b7_9 0)]) [1, 2, 3, 4, 5, 6, 7] rfl ?_
 refine Zq (Zr ?_)
 refine Zm ?_
 refine VL.q (q_fes gagg34 rfl rfl) (by decide) ?_
 obtain ⟨y43_10, ey43_10, hS⟩ := bd_s hS
 refine VL.callO (store_Store_Put_ct q19_1_0 q34_6_2 (⟨2, ⟨none, 0, []⟩, s38_7, 0, ⟨none, 0, []⟩, 0, []⟩ : ObjectObject) ey43_10) rfl (by decide) ?_
 rintro ⟨q43_10_0, q43_10_1, q43_10_2⟩ rfl
 try dsimp only
 refine Zm ?_
 refine VL.q (q_extract rfl rfl) (by decide) ?_
 refine VL.q (q_extract rfl rfl) (by decide) ?_
 refine Za ?_
 refine Za ?_
 refine Zl ?_
 refine Zq (Zr ?_)
 refine Zm ?_
 refine VL.q (q_build (vs := [(0, i64 3), (3, i64 1)]) (cs := #[i64 3, .slice none 0 0, .slice none 0 0, i64 1, .slice none 0 0, i64 0, str []]) rfl (by kernel_rfl)) (by decide) ?_
 obtain ⟨y49_11, ey49_11, hS⟩ := bd_s hS
 refine VL.callO (store_Store_Put_ct q19_1_0 q43_10_2 (⟨3, ⟨none, 0, []⟩, ⟨none, 0, []⟩, 1, ⟨none, 0, []⟩, 0, []⟩ : ObjectObject) ey49_11) rfl (by decide) ?_
 rintro ⟨q49_11_0, q49_11_1, q49_11_2⟩ rfl
 try dsimp only
 refine Zm ?_
 refine VL.q (q_extract rfl rfl) (by decide) ?_
 refine VL.q (q_extract rfl rfl) (by decide) ?_
 refine Za ?_
 refine Za ?_
 refine Zl ?_
 refine VC.keep (ρ' := [(1, ptr q19_1_0 0), (2, ptr b2_4 0), (3, i64 q28_5_0), (4, q28_5_1.val), (5, i64 q34_6_0), (6, q34_6_1.val), (7, ptr b7_9 0), (8, i64 q43_10_0), (9, q43_10_1.val), (11, q49_11_1.val)]) [1, 2, 3, 4, 5, 6, 7, 8, 9, 11] rfl ?_
 refine Zq (Zr ?_)
 refine Zm ?_
 obtain ⟨y54_12, ey54_12, hS⟩ := bd_s hS
 refine VL.callO (store_Store_Get_ct q19_1_0 q49_11_2 2 ey54_12) rfl (by decide) ?_
 rintro ⟨q54_12_0, q54_12_1⟩ rfl
 try dsimp only
 refine Zm ?_
 refine VL.q (q_extract rfl rfl) (by decide) ?_
 refine VL.q (q_extract rfl rfl) (by decide) ?_
 refine VL.alloc (cs := [i64 0, .slice none 0 0, .slice none 0 0, i64 0, .slice none 0 0, i64 0, str []]) (by kernel_rfl) (by decide) fun b12_13 => ?_
 refine VL.store (vc := [i64 q54_12_0.kind, q54_12_0.data.val, q54_12_0.items.val, i64 q54_12_0.tree, q54_12_0.parents.val, i64 q54_12_0.time, str q54_12_0.text]) (cs' := [i64 q54_12_0.kind, q54_12_0.data.val, q54_12_0.items.val, i64 q54_12_0.tree, q54_12_0.parents.val, i64 q54_12_0.time, str q54_12_0.text]) rfl rfl rfl gsz34 rfl rfl (Nat.le_of_ble_eq_true rfl) rfl ?_
 refine Za ?_
 refine Zl ?_
 refine Zq (Zr ?_)
 refine Zm ?_
 refine VL.q (q_fes gagg34 rfl rfl) (by decide) ?_
 obtain ⟨y60_14, ey60_14, hS⟩ := bd_s hS
 refine VL.callO (store_Store_Find_ct q19_1_0 q49_11_2 (⟨1, s22_2, ⟨none, 0, []⟩, 0, ⟨none, 0, []⟩, 0, []⟩ : ObjectObject) ey60_14) rfl (by decide) ?_
 rintro _ _
 try dsimp only
 refine Zm ?_
 refine VL.q (q_extract rfl rfl) (by decide) ?_
 refine VL.q (q_extract rfl rfl) (by decide) ?_
 refine Za ?_
 refine Za ?_
 refine Zl ?_
 refine VC.keep (ρ' := [(1, ptr q19_1_0 0), (3, i64 q28_5_0), (4, q28_5_1.val), (5, i64 q34_6_0), (6, q34_6_1.val), (7, ptr b7_9 0), (8, i64 q43_10_0), (9, q43_10_1.val), (11, q49_11_1.val), (12, ptr b12_13 0), (13, .bool q54_12_1), (14, i64 y60_14.1), (15, .bool y60_14.2)]) [1, 3, 4, 5, 6, 7, 8, 9, 11, 12, 13, 14, 15] rfl ?_
 refine Zq (Zr ?_)
 refine Zm ?_
 refine VL.lit (α := Int) (xs := [.const (i64 2)]) (vs := [i64 2]) [2] Tryz.underlying26 glit3 (by decide) rfl rfl rfl rfl (by decide) (fun _ _ _ _ => trivial) (by decide) (fun s64_15 hs64_15 => ?_) (by decide)
 replace hS := lt_to hs64_15 hS
 obtain ⟨y65_17, ey65_17, hS⟩ := bd_s hS
 refine VL.callO (store_Store_Reach_ct q19_1_0 q49_11_2 s64_15 ey65_17) rfl (by decide) ?_
 rintro q65_17_0 rfl
 try dsimp only
 refine Za ?_
 refine Zl ?_
 refine Zq (Zr ?_)
 refine Zm ?_
 obtain ⟨y68_18, ey68_18, hS⟩ := bd_s hS
 refine VL.callO (store_Store_Bytes_ct q19_1_0 q49_11_2 ey68_18) rfl (by decide) ?_
 rintro q68_18_0 rfl
 try dsimp only
 obtain ⟨y69_19, ey69_19, hS⟩ := bd_s hS
 refine VL.callO (store_Load_ct q68_18_0 ey69_19) rfl (by decide) ?_
 rintro (q69_19_0 | ⟨q69_19_0, q69_19_1⟩) rfl
 ·
  try dsimp only at hS
  try dsimp only
  refine Zm ?_
  refine VL.q (q_extract rfl rfl) (by decide) ?_
  refine VL.q (q_extract rfl rfl) (by decide) ?_
  refine Za ?_
  refine Za ?_
  refine Zl ?_
  refine VC.keep (ρ' := [(1, ptr q19_1_0 0), (3, i64 q28_5_0), (4, q28_5_1.val), (5, i64 q34_6_0), (6, q34_6_1.val), (7, ptr b7_9 0), (8, i64 q43_10_0), (9, q43_10_1.val), (11, q49_11_1.val), (12, ptr b12_13 0), (13, .bool q54_12_1), (14, i64 y60_14.1), (15, .bool y60_14.2), (16, q65_17_0.val), (17, .pointer none), (18, q69_19_0.val)]) [1, 3, 4, 5, 6, 7, 8, 9, 11, 12, 13, 14, 15, 16, 17, 18] rfl ?_
  refine Zq (Zr ?_)
  refine Zm ?_
  refine VL.q (q_ereq Tryz.underlying29 rfl) (by decide) ?_
  refine Zm ?_
  refine VL.split_dec 74 rfl (fun h74 => ?_) (fun h74 => ?_)
  ·
   replace hS := it_t h74 hS
   refine Zg ?_
   refine VL.gy rfl rfl (q_ereq Tryz.underlying29 rfl) (by decide) ?_
   refine Zt ?_
   refine Zm ?_
   refine VL.split_dec 78 rfl (fun h78 => ?_) (fun h78 => ?_)
   ·
    replace hS := it_t h78 hS
    refine Zg ?_
    refine VL.gy rfl rfl (q_ereq Tryz.underlying29 rfl) (by decide) ?_
    refine Zt ?_
    refine Zm ?_
    refine VL.split_dec 82 rfl (fun h82 => ?_) (fun h82 => ?_)
    ·
     replace hS := it_t h82 hS
     refine Zg ?_
     refine VL.gy rfl rfl (q_erne Tryz.underlying29 rfl) (by decide) ?_
     refine Zt ?_
     refine Zm ?_
     refine VL.split_ndec 86 rfl (fun h86 => ?_) (fun h86 => ?_)
     ·
      replace hS := it_f h86 hS
      refine Zg ?_
      refine VL.gy rfl rfl (q_ereq Tryz.underlying29 rfl) (by decide) ?_
      refine Zt ?_
      refine Zm ?_
      refine VL.split_dec 90 rfl (fun h90 => ?_) (fun h90 => ?_)
      ·
       replace hS := it_t h90 hS
       refine Zg ?_
       refine VL.gy rfl rfl (q_pnen Tryz.underlying24 rfl) (by decide) ?_
       refine Zt ?_
       refine Zm ?_
       refine VL.runs 48 [(0, some false)] (by kernel_rfl) ?_
       refine Zl ?_
       refine VC.keep (ρ' := [(0, .bool false)]) [0] rfl ?_
       cases hS
       exact Ze
      replace hS := it_f h90 hS
      refine VL.runs 52 [(0, some false)] (by kernel_rfl) ?_
      refine Zl ?_
      refine VC.keep (ρ' := [(0, .bool false)]) [0] rfl ?_
      cases hS
      exact Ze
     replace hS := it_t h86 hS
     refine VL.runs 56 [(0, some false)] (by kernel_rfl) ?_
     refine Zl ?_
     refine VC.keep (ρ' := [(0, .bool false)]) [0] rfl ?_
     cases hS
     exact Ze
    replace hS := it_f h82 hS
    refine VL.runs 60 [(0, some false)] (by kernel_rfl) ?_
    refine Zl ?_
    refine VC.keep (ρ' := [(0, .bool false)]) [0] rfl ?_
    cases hS
    exact Ze
   replace hS := it_f h78 hS
   refine VL.runs 64 [(0, some false)] (by kernel_rfl) ?_
   refine Zl ?_
   refine VC.keep (ρ' := [(0, .bool false)]) [0] rfl ?_
   cases hS
   exact Ze
  replace hS := it_f h74 hS
  refine VL.runs 68 [(0, some false)] (by kernel_rfl) ?_
  refine Zl ?_
  refine VC.keep (ρ' := [(0, .bool false)]) [0] rfl ?_
  cases hS
  exact Ze
 try dsimp only at hS
 try dsimp only
 refine Zm ?_
 refine VL.q (q_extract rfl rfl) (by decide) ?_
 refine VL.q (q_extract rfl rfl) (by decide) ?_
 refine Za ?_
 refine Za ?_
 refine Zl ?_
 refine VC.keep (ρ' := [(1, ptr q19_1_0 0), (3, i64 q28_5_0), (4, q28_5_1.val), (5, i64 q34_6_0), (6, q34_6_1.val), (7, ptr b7_9 0), (8, i64 q43_10_0), (9, q43_10_1.val), (11, q49_11_1.val), (12, ptr b12_13 0), (13, .bool q54_12_1), (14, i64 y60_14.1), (15, .bool y60_14.2), (16, q65_17_0.val), (17, ptr q69_19_0 0), (18, .nilIface)]) [1, 3, 4, 5, 6, 7, 8, 9, 11, 12, 13, 14, 15, 16, 17, 18] rfl ?_
 refine Zq (Zr ?_)
 refine Zm ?_
 refine VL.q (q_ereq Tryz.underlying29 rfl) (by decide) ?_
 refine Zm ?_
 refine VL.split_dec 74 rfl (fun h74 => ?_) (fun h74 => ?_)
 ·
  replace hS := it_t h74 hS
  refine Zg ?_
  refine VL.gy rfl rfl (q_ereq Tryz.underlying29 rfl) (by decide) ?_
  refine Zt ?_
  refine Zm ?_
  refine VL.split_dec 78 rfl (fun h78 => ?_) (fun h78 => ?_)
  ·
   replace hS := it_t h78 hS
   refine Zg ?_
   refine VL.gy rfl rfl (q_ereq Tryz.underlying29 rfl) (by decide) ?_
   refine Zt ?_
   refine Zm ?_
   refine VL.split_dec 82 rfl (fun h82 => ?_) (fun h82 => ?_)
   ·
    replace hS := it_t h82 hS
    refine Zg ?_
    refine VL.gy rfl rfl (q_erne Tryz.underlying29 rfl) (by decide) ?_
    refine Zt ?_
    refine Zm ?_
    refine VL.split_ndec 86 rfl (fun h86 => ?_) (fun h86 => ?_)
    ·
     replace hS := it_f h86 hS
     refine Zg ?_
     refine VL.gy rfl rfl (q_nileq Tryz.underlying29 rfl) (by decide) ?_
     refine Zt ?_
     refine Zm ?_
     refine Zg ?_
     refine VL.gy rfl rfl (q_pnen Tryz.underlying24 rfl) (by decide) ?_
     refine Zt ?_
     refine Zm ?_
     refine Zg ?_
     refine VL.gy rfl rfl (q_eql rfl rfl) (by decide) ?_
     refine Zt ?_
     refine Zm ?_
     refine VL.split_dec 98 rfl (fun h98 => ?_) (fun h98 => ?_)
     ·
      replace hS := it_t h98 hS
      refine Zg ?_
      refine VL.gy rfl rfl (q_eql rfl rfl) (by decide) ?_
      refine Zt ?_
      refine Zm ?_
      refine VL.split_dec 102 rfl (fun h102 => ?_) (fun h102 => ?_)
      ·
       replace hS := it_t h102 hS
       refine Zg ?_
       refine VL.gy rfl rfl (q_eql rfl rfl) (by decide) ?_
       refine Zt ?_
       refine Zm ?_
       refine VL.split_dec 106 rfl (fun h106 => ?_) (fun h106 => ?_)
       ·
        replace hS := it_t h106 hS
        refine Zg ?_
        refine Zt ?_
        refine Zm ?_
        refine VL.split 109 rfl (fun h109 => ?_) (fun h109 => ?_)
        ·
         replace hS := it_t h109 hS
         refine VL.gy rfl rfl (q_fes gagg34 rfl rfl) (by decide) ?_
         refine VL.gy rfl rfl (q_fes gagg34 rfl rfl) (by decide) ?_
         obtain ⟨y112_20, ey112_20, hS⟩ := bd_s hS
         refine VL.gy rfl rfl (q_call (object_Same_ct q54_12_0 (⟨2, ⟨none, 0, []⟩, s38_7, 0, ⟨none, 0, []⟩, 0, []⟩ : ObjectObject) ey112_20) rfl (fun _ _ => rfl)) (by decide) ?_
         refine Zt ?_
         refine Zm ?_
         refine VL.split 114 rfl (fun h114 => ?_) (fun h114 => ?_)
         ·
          replace hS := it_t h114 hS
          refine Zg ?_
          refine VL.gy rfl rfl (q_eql rfl rfl) (by decide) ?_
          refine Zt ?_
          refine Zm ?_
          refine VL.split_dec 118 rfl (fun h118 => ?_) (fun h118 => ?_)
          ·
           replace hS := it_t h118 hS
           refine Zg ?_
           refine Zt ?_
           refine Zm ?_
           refine VL.split 121 rfl (fun h121 => ?_) (fun h121 => ?_)
           ·
            replace hS := it_t h121 hS
            refine Zg ?_
            refine VL.gy rfl rfl (q_ln (s := q65_17_0) Tryz.underlying26 rfl) (by decide) ?_
            refine VL.gy rfl rfl (q_eql rfl rfl) (by decide) ?_
            refine Zt ?_
            refine Zm ?_
            refine VL.split_dec 126 rfl (fun h126 => ?_) (fun h126 => ?_)
            ·
             replace hS := it_t h126 hS
             refine Zg ?_
             obtain ⟨z128_21, nz128_21, hz128_21, hS⟩ := at_s hS
             refine VL.gy rfl rfl (q_ixm (s := q65_17_0) Tryz.underlying26 gsz3 rfl rfl nz128_21 (lt_of_get nz128_21 hz128_21)) (by decide) ?_
             refine VL.gy rfl rfl (q_el (s := q65_17_0) gone3 rfl hz128_21 rfl) (by decide) ?_
             refine VL.gy rfl rfl (q_eql rfl rfl) (by decide) ?_
             refine Zt ?_
             refine Zm ?_
             refine VL.split_dec 132 rfl (fun h132 => ?_) (fun h132 => ?_)
             ·
              replace hS := it_t h132 hS
              refine Zg ?_
              refine VL.guard rfl rfl ?_
              obtain ⟨y134_22, ey134_22, hS⟩ := bd_s hS
              refine VL.callO (store_Store_Len_ct q19_1_0 q49_11_2 ey134_22) rfl (by decide) ?_
              rintro _ _
              try dsimp only
              refine VL.gy rfl rfl (q_eql rfl rfl) (by decide) ?_
              refine Zt ?_
              refine Zm ?_
              refine VL.split_dec 137 rfl (fun h137 => ?_) (fun h137 => ?_)
              ·
               replace hS := it_t h137 hS
               refine Zg ?_
               refine VL.guard rfl rfl ?_
               obtain ⟨y139_23, ey139_23, hS⟩ := bd_s hS
               refine VL.callO (store_Store_Len_ct q69_19_0 q69_19_1 ey139_23) rfl (by decide) ?_
               rintro _ _
               try dsimp only
               refine VL.gy rfl rfl (q_eql rfl rfl) (by decide) ?_
               refine Zt ?_
               refine Za ?_
               refine Zl ?_
               refine VC.keep (ρ' := [(0, .bool (decide (y139_23 = 2)))]) [0] rfl ?_
               cases hS
               exact Ze
              replace hS := it_f h137 hS
              refine VL.runs 5 [(0, some false)] (by kernel_rfl) ?_
              refine Zl ?_
              refine VC.keep (ρ' := [(0, .bool false)]) [0] rfl ?_
              cases hS
              exact Ze
             replace hS := it_f h132 hS
             refine VL.runs 10 [(0, some false)] (by kernel_rfl) ?_
             refine Zl ?_
             refine VC.keep (ρ' := [(0, .bool false)]) [0] rfl ?_
             cases hS
             exact Ze
            replace hS := it_f h126 hS
            refine VL.runs 16 [(0, some false)] (by kernel_rfl) ?_
            refine Zl ?_
            refine VC.keep (ρ' := [(0, .bool false)]) [0] rfl ?_
            cases hS
            exact Ze
           replace hS := it_b h121 hS
           refine VL.runs 21 [(0, some false)] (by kernel_rfl) ?_
           refine Zl ?_
           refine VC.keep (ρ' := [(0, .bool false)]) [0] rfl ?_
           cases hS
           exact Ze
          replace hS := it_f h118 hS
          refine VL.runs 24 [(0, some false)] (by kernel_rfl) ?_
          refine Zl ?_
          refine VC.keep (ρ' := [(0, .bool false)]) [0] rfl ?_
          cases hS
          exact Ze
         replace hS := it_b h114 hS
         refine VL.runs 28 [(0, some false)] (by kernel_rfl) ?_
         refine Zl ?_
         refine VC.keep (ρ' := [(0, .bool false)]) [0] rfl ?_
         cases hS
         exact Ze
        replace hS := it_b h109 hS
        refine VL.runs 33 [(0, some false)] (by kernel_rfl) ?_
        refine Zl ?_
        refine VC.keep (ρ' := [(0, .bool false)]) [0] rfl ?_
        cases hS
        exact Ze
       replace hS := it_f h106 hS
       refine VL.runs 36 [(0, some false)] (by kernel_rfl) ?_
       refine Zl ?_
       refine VC.keep (ρ' := [(0, .bool false)]) [0] rfl ?_
       cases hS
       exact Ze
      replace hS := it_f h102 hS
      refine VL.runs 40 [(0, some false)] (by kernel_rfl) ?_
      refine Zl ?_
      refine VC.keep (ρ' := [(0, .bool false)]) [0] rfl ?_
      cases hS
      exact Ze
     replace hS := it_f h98 hS
     refine VL.runs 44 [(0, some false)] (by kernel_rfl) ?_
     refine Zl ?_
     refine VC.keep (ρ' := [(0, .bool false)]) [0] rfl ?_
     cases hS
     exact Ze
    replace hS := it_t h86 hS
    refine VL.runs 56 [(0, some false)] (by kernel_rfl) ?_
    refine Zl ?_
    refine VC.keep (ρ' := [(0, .bool false)]) [0] rfl ?_
    cases hS
    exact Ze
   replace hS := it_f h82 hS
   refine VL.runs 60 [(0, some false)] (by kernel_rfl) ?_
   refine Zl ?_
   refine VC.keep (ρ' := [(0, .bool false)]) [0] rfl ?_
   cases hS
   exact Ze
  replace hS := it_f h78 hS
  refine VL.runs 64 [(0, some false)] (by kernel_rfl) ?_
  refine Zl ?_
  refine VC.keep (ρ' := [(0, .bool false)]) [0] rfl ?_
  cases hS
  exact Ze
 replace hS := it_f h74 hS
 refine VL.runs 68 [(0, some false)] (by kernel_rfl) ?_
 refine Zl ?_
 refine VC.keep (ρ' := [(0, .bool false)]) [0] rfl ?_
 cases hS
 exact Ze
theorem rectolaw8_StoreOnce_ct (l_0 : Sv (Sv UInt8)) (times_1 : Int) {r : Bool} (hS : Sh.rectolaw8_StoreOnce (l_0.l.map Sv.l) times_1 = some r) :
 Ct Tryz.prog 3 [l_0.val, .int .u8 times_1] l_0.ok (Ow.emp) (X := Unit) (fun _ => .bool r) (fun _ => True) (fun _ => Mo.tt) (fun _ => Ow.emp) := by
 refine Ct.of Tryz.func3 rfl (by kernel_rfl) Tryz.ntmps3 (by simp) fun c => ?_
 unfold Sh.rectolaw8_StoreOnce at hS
 refine Zq (Zr ?_)
 refine Za ?_
 refine Zl ?_
 refine Zq (Zq (Zr ?_))
 obtain ⟨y17_1, ey17_1, hS⟩ := bd_s hS
 refine VL.q (q_call (rectolaw8_known_ct ey17_1) rfl (fun _ _ => rfl)) (by decide) ?_
 refine VL.q (q_not rfl) (by decide) ?_
 refine Zl ?_
 refine VC.cond rfl (fun h18 => ?_) (fun h18 => ?_)
 ·
  replace hS := it_t h18 hS
  refine Zq (Zr ?_)
  refine Za ?_
  refine Zl ?_
  cases hS
  exact Ze
 replace hS := it_b h18 hS
 refine Zk ?_
 refine Zq (Zq (Zr ?_))
 refine Zm ?_
 refine VL.q (q_lnm Sv.l (s := l_0) Tryz.underlying22 rfl) (by decide) ?_
 refine VL.q (q_gtr rfl rfl) (by decide) ?_
 refine Zl ?_
 refine VC.cond_dec rfl (fun h21 => ?_) (fun h21 => ?_)
 ·
  replace hS := it_t h21 hS
  refine Zq (Zr ?_)
  refine Za ?_
  refine Zl ?_
  cases hS
  exact Ze
 replace hS := it_f h21 hS
 refine Zk ?_
 refine Zq (Zr ?_)
 obtain ⟨y22_2, ey22_2, hS⟩ := bd_s hS
 refine VL.callO (store_New_ct ey22_2) rfl (by decide) ?_
 rintro ⟨q22_2_0, q22_2_1⟩ rfl
 try dsimp only
 refine Za ?_
 refine Zl ?_
 refine Zq (Zr ?_)
 refine Za ?_
 refine Zl ?_
 refine VC.keep (ρ' := [(0, l_0.val), (1, .int .u8 times_1), (5, ptr q22_2_0 0), (6, .slice none 0 0)]) [0, 1, 5, 6] rfl ?_
 refine Zq (Zq (Zr ?_))
 refine Za ?_
 refine Zl ?_
 refine Zb ?_
 refine VC.nilO (⟨none, 0, []⟩ : Sv Int) 3 ⟨rfl, rfl⟩ ?_
 refine VC.iter (S := Sv Int × Int × Sv ObjectObject × Mv Str Int) (fun sg => (sg.1.l, sg.2.1, (sg.2.2.1.l.map ObjectObject.pl), sg.2.2.2.l)) (fun sg => [(0, l_0.val), (1, .int .u8 times_1), (5, ptr q22_2_0 0), (6, sg.1.val), (7, i64 sg.2.1)]) (fun sg => (MAl sg.2.2.1.l)) (fun sg => Ow.star (Blk q22_2_0 [sg.2.2.1.val, sg.2.2.2.val] 109) (Ow.star (Sv.own sg.1 3) (Ow.star (Sv.own sg.2.2.1 34) (Ow.star (Mv.own sg.2.2.2 Tryz.prog 9 3 kStr kInt) (Ow.emp))))) (⟨none, 0, []⟩, 0, q22_2_1.l, q22_2_1.by_) [0, 1, 5, 6, 7] hS rfl ?_
 clear hS
 rintro ⟨ids6_3, i7_4, c0_5, c1_6⟩ m1 y1 hS hK1
 show VC _ _ _ _ _ [(0, l_0.val), (1, .int .u8 times_1), (5, ptr q22_2_0 0), (6, ids6_3.val), (7, i64 i7_4)] (Mo.and (MAl c0_5.l) _) (Ow.star (Blk q22_2_0 [c0_5.val, c1_6.val] 109) (Ow.star (Sv.own ids6_3 3) (Ow.star (Sv.own c0_5 34) (Ow.star (Mv.own c1_6 Tryz.prog 9 3 kStr kInt) (Ow.emp)))))
 refine Zq (Zq (Zr ?_))
 refine Zm ?_
 refine Zm ?_
 refine VL.q (q_lnm Sv.l (s := l_0) Tryz.underlying22 rfl) (by decide) ?_
 refine VL.q (q_lss rfl rfl) (by decide) ?_
 refine Zl ?_
 refine VC.cond_dec rfl (fun h26 => ?_) (fun h26 => ?_)
 ·
  replace hS := it_t h26 hS
  refine Zk ?_
  refine Zq (Zb (Zq (Zq (Zr ?_))))
  refine Zm ?_
  refine Zm ?_
  obtain ⟨z31_7, nz31_7, hz31_7, hS⟩ := atm_s hS
  refine VL.deep z31_7.ok hz31_7 (fun _ q => q) ?_
  refine VL.q (q_ixm (s := l_0) Tryz.underlying22 gsz27 rfl rfl nz31_7 (lt_of_get nz31_7 hz31_7)) (by decide) ?_
  refine VL.q (q_el (s := l_0) gone27 rfl hz31_7 rfl) (by decide) ?_
  refine VL.q (q_ln (s := z31_7) Tryz.underlying27 rfl) (by decide) ?_
  refine VL.q (q_gtr rfl rfl) (by decide) ?_
  refine Zl ?_
  refine VC.keep (ρ' := [(0, l_0.val), (1, .int .u8 times_1), (5, ptr q22_2_0 0), (6, ids6_3.val), (7, i64 i7_4), (34, .bool (decide (300 < (z31_7.l.length : Int))))]) [0, 1, 5, 6, 7, 34] rfl ?_
  refine VC.cond_dec rfl (fun h34 => ?_) (fun h34 => ?_)
  ·
   replace hS := it_t h34 hS
   refine Zq (Zr ?_)
   refine Za ?_
   refine Zl ?_
   replace hS := up2 hS hK1
   cases hS
   exact Ze
  replace hS := it_f h34 hS
  refine Zk ?_
  refine Zq (Zr ?_)
  refine Zm ?_
  refine Zm ?_
  refine Zm ?_
  obtain ⟨z39_8, nz39_8, hz39_8, hS⟩ := atm_s hS
  refine VL.deep z39_8.ok hz39_8 (fun _ q => q) ?_
  refine VL.q (q_ixm (s := l_0) Tryz.underlying22 gsz27 rfl rfl nz39_8 (lt_of_get nz39_8 hz39_8)) (by decide) ?_
  refine VL.q (q_el (s := l_0) gone27 rfl hz39_8 rfl) (by decide) ?_
  refine VL.q (q_build (vs := [(0, i64 1), (1, z39_8.val)]) (cs := #[i64 1, z39_8.val, .slice none 0 0, i64 0, .slice none 0 0, i64 0, str []]) rfl (by kernel_rfl)) (by decide) ?_
  obtain ⟨y42_9, ey42_9, hS⟩ := bd_s hS
  refine VL.callO (store_Store_Put_ct q22_2_0 (⟨c0_5, c1_6⟩ : StoreStore) (⟨1, z39_8, ⟨none, 0, []⟩, 0, ⟨none, 0, []⟩, 0, []⟩ : ObjectObject) ey42_9) rfl (by decide) ?_
  rintro ⟨q42_9_0, q42_9_1, q42_9_2⟩ rfl
  try dsimp only
  refine Zm ?_
  refine VL.q (q_extract rfl rfl) (by decide) ?_
  refine VL.q (q_extract rfl rfl) (by decide) ?_
  refine Za ?_
  refine Za ?_
  refine Zl ?_
  refine VC.keep (ρ' := [(0, l_0.val), (1, .int .u8 times_1), (5, ptr q22_2_0 0), (6, ids6_3.val), (7, i64 i7_4), (8, i64 q42_9_0), (9, q42_9_1.val)]) [0, 1, 5, 6, 7, 8, 9] rfl ?_
  refine Zq (Zq (Zr ?_))
  refine Zm ?_
  refine VL.q (q_erne Tryz.underlying29 rfl) (by decide) ?_
  refine Zl ?_
  refine VC.cond_ndec rfl (fun h46 => ?_) (fun h46 => ?_)
  ·
   replace hS := it_f h46 hS
   refine Zq (Zr ?_)
   refine Za ?_
   refine Zl ?_
   replace hS := up2 hS hK1
   cases hS
   exact Ze
  replace hS := it_t h46 hS
  refine Zk ?_
  refine Zr ?_
  refine Zm ?_
  refine Zm ?_
  refine VL.lit (α := Int) (xs := [.tmp 48]) (vs := [i64 q42_9_0]) [q42_9_0] Tryz.underlying26 glit3 (by decide) rfl rfl rfl rfl (by decide) (fun _ _ _ _ => trivial) (by decide) (fun s49_10 hs49_10 => ?_) (by decide)
  replace hS := lt_to hs49_10 hS
  obtain ⟨b50, hS⟩ := gd_s hS
  refine VL.app (s := ids6_3) (r := s49_10) Tryz.underlying26 gapp3 (by decide) rfl Fo.out (ap1 b50) (ap2 b50 (by decide)) (by decide) (fun s50_12 hs50_12 => ?_)
  replace hS := lt_to hs50_12 hS
  refine Za ?_
  refine Zl ?_
  refine VC.keep (ρ' := [(0, l_0.val), (1, .int .u8 times_1), (5, ptr q22_2_0 0), (6, s50_12.val), (7, i64 i7_4)]) [0, 1, 5, 6, 7] rfl ?_
  refine Zr ?_
  refine Zm ?_
  obtain ⟨b28, hS⟩ := gd_s hS
  refine VL.q (q_add rfl rfl b28) (by decide) ?_
  refine Za ?_
  refine VL.rnd (s50_12, (i7_4 + 1), q42_9_2.l, q42_9_2.by_) [0, 1, 5, 6, 7] (fun _ _ h => h) (go2 hS hK1) rfl
 replace hS := it_f h26 hS
 replace hS := up2 hS hK1
 refine Zx ?_
 refine Zq (Zr ?_)
 refine Zm ?_
 obtain ⟨y52_14, ey52_14, hS⟩ := bd_s hS
 refine VL.callO (store_Store_Len_ct q22_2_0 (⟨c0_5, c1_6⟩ : StoreStore) ey52_14) rfl (by decide) ?_
 rintro _ _
 try dsimp only
 refine Za ?_
 refine Zl ?_
 refine VC.keep (ρ' := [(0, l_0.val), (1, .int .u8 times_1), (5, ptr q22_2_0 0), (6, ids6_3.val), (10, i64 y52_14)]) [0, 1, 5, 6, 10] rfl ?_
 refine Zq (Zq (Zr ?_))
 refine Za ?_
 refine Zl ?_
 refine Zb ?_
 refine VC.iter (S := Int × Sv ObjectObject × Mv Str Int) (fun sg => (sg.1, (sg.2.1.l.map ObjectObject.pl), sg.2.2.l)) (fun sg => [(0, l_0.val), (1, .int .u8 times_1), (5, ptr q22_2_0 0), (6, ids6_3.val), (10, i64 y52_14), (11, i64 sg.1)]) (fun sg => (MAl sg.2.1.l)) (fun sg => Ow.star (Blk q22_2_0 [sg.2.1.val, sg.2.2.val] 109) (Ow.star (Sv.own ids6_3 3) (Ow.star (Sv.own sg.2.1 34) (Ow.star (Mv.own sg.2.2 Tryz.prog 9 3 kStr kInt) (Ow.emp))))) (0, c0_5, c1_6) [0, 1, 5, 6, 10, 11] hS rfl ?_
 clear hS
 rintro ⟨t11_15, c0_16, c1_17⟩ m1 y1 hS hK1
 show VC _ _ _ _ _ [(0, l_0.val), (1, .int .u8 times_1), (5, ptr q22_2_0 0), (6, ids6_3.val), (10, i64 y52_14), (11, i64 t11_15)] (Mo.and (MAl c0_16.l) _) (Ow.star (Blk q22_2_0 [c0_16.val, c1_17.val] 109) (Ow.star (Sv.own ids6_3 3) (Ow.star (Sv.own c0_16 34) (Ow.star (Mv.own c1_17 Tryz.prog 9 3 kStr kInt) (Ow.emp)))))
 refine Zq (Zq (Zr ?_))
 refine Zm ?_
 refine Zm ?_
 obtain ⟨b55, hS⟩ := gd_s hS
 refine VL.q (q_rem rfl rfl b55) (by decide) ?_
 refine VL.q (q_convW Tryz.underlying5 Tryz.underlying3 rfl) (by decide) ?_
 refine VL.q (q_lss rfl rfl) (by decide) ?_
 refine Zl ?_
 refine VC.cond_dec rfl (fun h57 => ?_) (fun h57 => ?_)
 ·
  replace hS := it_t h57 hS
  refine Zk ?_
  refine Zq (Zb (Zq (Zr ?_)))
  refine Zm ?_
  refine VL.q (q_lnm Sv.l (s := l_0) Tryz.underlying22 rfl) (by decide) ?_
  obtain ⟨b62, hS⟩ := gd_s hS
  refine VL.q (q_sub rfl rfl b62) (by decide) ?_
  refine Za ?_
  refine Zl ?_
  refine VC.keep (ρ' := [(0, l_0.val), (1, .int .u8 times_1), (5, ptr q22_2_0 0), (6, ids6_3.val), (10, i64 y52_14), (11, i64 t11_15), (12, i64 (((l_0.l.map Sv.l).length : Int) - 1))]) [0, 1, 5, 6, 10, 11, 12] rfl ?_
  refine Zb ?_
  refine VC.iter (S := Int × Sv ObjectObject × Mv Str Int) (fun sg => (sg.1, (sg.2.1.l.map ObjectObject.pl), sg.2.2.l)) (fun sg => [(0, l_0.val), (1, .int .u8 times_1), (5, ptr q22_2_0 0), (6, ids6_3.val), (10, i64 y52_14), (11, i64 t11_15), (12, i64 sg.1)]) (fun sg => (MAl sg.2.1.l)) (fun sg => Ow.star (Blk q22_2_0 [sg.2.1.val, sg.2.2.val] 109) (Ow.star (Sv.own ids6_3 3) (Ow.star (Sv.own sg.2.1 34) (Ow.star (Mv.own sg.2.2 Tryz.prog 9 3 kStr kInt) (Ow.emp))))) ((((l_0.l.map Sv.l).length : Int) - 1), c0_16, c1_17) [0, 1, 5, 6, 10, 11, 12] hS rfl ?_
  clear hS
  rintro ⟨i12_18, c0_19, c1_20⟩ m2 y2 hS hK2
  show VC _ _ _ _ _ [(0, l_0.val), (1, .int .u8 times_1), (5, ptr q22_2_0 0), (6, ids6_3.val), (10, i64 y52_14), (11, i64 t11_15), (12, i64 i12_18)] (Mo.and (MAl c0_19.l) _) (Ow.star (Blk q22_2_0 [c0_19.val, c1_20.val] 109) (Ow.star (Sv.own ids6_3 3) (Ow.star (Sv.own c0_19 34) (Ow.star (Mv.own c1_20 Tryz.prog 9 3 kStr kInt) (Ow.emp)))))
  refine Zq (Zq (Zr ?_))
  refine Zm ?_
  refine VL.q (q_geq rfl rfl) (by decide) ?_
  refine Zl ?_
  refine VC.cond_dec rfl (fun h64 => ?_) (fun h64 => ?_)
  ·
   replace hS := it_t h64 hS
   refine Zk ?_
   refine Zq (Zb (Zq (Zr ?_)))
   refine Zm ?_
   refine Zm ?_
   refine Zm ?_
   obtain ⟨z71_21, nz71_21, hz71_21, hS⟩ := atm_s hS
   refine VL.deep z71_21.ok hz71_21 (fun _ q => q) ?_
   refine VL.q (q_ixm (s := l_0) Tryz.underlying22 gsz27 rfl rfl nz71_21 (lt_of_get nz71_21 hz71_21)) (by decide) ?_
   refine VL.q (q_el (s := l_0) gone27 rfl hz71_21 rfl) (by decide) ?_
   refine VL.q (q_build (vs := [(0, i64 1), (1, z71_21.val)]) (cs := #[i64 1, z71_21.val, .slice none 0 0, i64 0, .slice none 0 0, i64 0, str []]) rfl (by kernel_rfl)) (by decide) ?_
   obtain ⟨y74_22, ey74_22, hS⟩ := bd_s hS
   refine VL.callO (store_Store_Put_ct q22_2_0 (⟨c0_19, c1_20⟩ : StoreStore) (⟨1, z71_21, ⟨none, 0, []⟩, 0, ⟨none, 0, []⟩, 0, []⟩ : ObjectObject) ey74_22) rfl (by decide) ?_
   rintro ⟨q74_22_0, q74_22_1, q74_22_2⟩ rfl
   try dsimp only
   refine Zm ?_
   refine VL.q (q_extract rfl rfl) (by decide) ?_
   refine VL.q (q_extract rfl rfl) (by decide) ?_
   refine Za ?_
   refine Za ?_
   refine Zl ?_
   refine VC.keep (ρ' := [(0, l_0.val), (1, .int .u8 times_1), (5, ptr q22_2_0 0), (6, ids6_3.val), (10, i64 y52_14), (11, i64 t11_15), (12, i64 i12_18), (13, i64 q74_22_0), (14, q74_22_1.val)]) [0, 1, 5, 6, 10, 11, 12, 13, 14] rfl ?_
   refine VC.cutJ (S := Bool) (fun (x86_23 : Bool) => x86_23) (fun (x86_23 : Bool) => [(0, l_0.val), (1, .int .u8 times_1), (5, ptr q22_2_0 0), (6, ids6_3.val), (10, i64 y52_14), (11, i64 t11_15), (12, i64 i12_18), (86, .bool x86_23)]) (fun (x86_23 : Bool) => Mo.tt) (fun (x86_23 : Bool) => Ow.star (Blk q22_2_0 [q74_22_2.l.val, q74_22_2.by_.val] 109) (Ow.star (Mv.own q74_22_2.by_ Tryz.prog 9 3 kStr kInt) (Ow.star (Sv.own q74_22_2.l 34) (Ow.star (Sv.own ids6_3 3) (Ow.emp))))) hS ?_ ?_
   ·
    clear hS
    intro k24 hS
    refine Zr ?_
    refine Zm ?_
    refine VL.q (q_erne Tryz.underlying29 rfl) (by decide) ?_
    refine Zm ?_
    refine VL.split_ndec 79 rfl (fun h79 => ?_) (fun h79 => ?_)
    ·
     replace hS := it_f h79 hS
     refine VL.runs 7 [(86, some true)] (by kernel_rfl) ?_
     refine VL.mt true [0, 1, 5, 6, 10, 11, 12, 86] (fun _ _ h => h) hS rfl
    replace hS := it_t h79 hS
    refine Zg ?_
    refine Zg ?_
    refine Zg ?_
    obtain ⟨z83_25, nz83_25, hz83_25, hS⟩ := at_s hS
    refine VL.gy rfl rfl (q_ixo (s := ids6_3) Tryz.underlying26 gsz3 rfl rfl nz83_25 (lt_of_get nz83_25 hz83_25)) (by decide) ?_
    refine VL.gy rfl rfl (q_elo (s := ids6_3) 3 gone3 rfl hz83_25 rfl) (by decide) ?_
    refine VL.gy rfl rfl (q_neq rfl rfl) (by decide) ?_
    refine Zf ?_
    refine VL.mt (!decide (q74_22_0 = z83_25)) [0, 1, 5, 6, 10, 11, 12, 86] (fun _ _ h => h) hS rfl
   clear hS
   rintro x86_23 hS
   show VC _ _ _ _ _ [(0, l_0.val), (1, .int .u8 times_1), (5, ptr q22_2_0 0), (6, ids6_3.val), (10, i64 y52_14), (11, i64 t11_15), (12, i64 i12_18), (86, .bool x86_23)] (Mo.and Mo.tt _) (Ow.star (Blk q22_2_0 [q74_22_2.l.val, q74_22_2.by_.val] 109) (Ow.star (Mv.own q74_22_2.by_ Tryz.prog 9 3 kStr kInt) (Ow.star (Sv.own q74_22_2.l 34) (Ow.star (Sv.own ids6_3 3) (Ow.emp)))))
   refine VC.cond rfl (fun h86 => ?_) (fun h86 => ?_)
   ·
    replace hS := it_t h86 hS
    refine Zq (Zr ?_)
    refine Za ?_
    refine Zl ?_
    replace hS := up2 hS hK2
    replace hS := up2 hS hK1
    cases hS
    exact Ze
   replace hS := it_b h86 hS
   refine Zk ?_
   refine Zr ?_
   refine Zm ?_
   obtain ⟨b66, hS⟩ := gd_s hS
   refine VL.q (q_sub rfl rfl b66) (by decide) ?_
   refine Za ?_
   refine VL.rnd ((i12_18 - 1), q74_22_2.l, q74_22_2.by_) [0, 1, 5, 6, 10, 11, 12] (fun _ _ h => h) (go2 hS hK2) rfl
  replace hS := it_f h64 hS
  replace hS := up2 hS hK2
  refine Zx ?_
  refine Zr ?_
  refine Zm ?_
  obtain ⟨b59, hS⟩ := gd_s hS
  refine VL.q (q_add rfl rfl b59) (by decide) ?_
  refine Za ?_
  refine VL.rnd ((t11_15 + 1), c0_19, c1_20) [0, 1, 5, 6, 10, 11] (fun _ _ h => h) (go2 hS hK1) rfl
 replace hS := it_f h57 hS
 replace hS := up2 hS hK1
 refine Zx ?_
 refine VC.keep (ρ' := [(0, l_0.val), (5, ptr q22_2_0 0), (6, ids6_3.val), (10, i64 y52_14)]) [0, 5, 6, 10] rfl ?_
 refine Zq (Zq (Zr ?_))
 refine Za ?_
 refine Zl ?_
 refine Zb ?_
 refine VC.iter (S := Int) (fun (i15_26 : Int) => i15_26) (fun (i15_26 : Int) => [(0, l_0.val), (5, ptr q22_2_0 0), (6, ids6_3.val), (10, i64 y52_14), (15, i64 i15_26)]) (fun (i15_26 : Int) => Mo.tt) (fun (i15_26 : Int) => Ow.star (Blk q22_2_0 [c0_16.val, c1_17.val] 109) (Ow.star (Sv.own ids6_3 3) (Ow.star (Sv.own c0_16 34) (Ow.star (Mv.own c1_17 Tryz.prog 9 3 kStr kInt) (Ow.emp))))) 0 [0, 5, 6, 10, 15] hS rfl ?_
 clear hS
 rintro i15_26 m1 y1 hS hK1
 show VC _ _ _ _ _ [(0, l_0.val), (5, ptr q22_2_0 0), (6, ids6_3.val), (10, i64 y52_14), (15, i64 i15_26)] (Mo.and Mo.tt _) (Ow.star (Blk q22_2_0 [c0_16.val, c1_17.val] 109) (Ow.star (Sv.own ids6_3 3) (Ow.star (Sv.own c0_16 34) (Ow.star (Mv.own c1_17 Tryz.prog 9 3 kStr kInt) (Ow.emp)))))
 refine Zq (Zq (Zr ?_))
 refine Zm ?_
 refine Zm ?_
 refine VL.q (q_lnm Sv.l (s := l_0) Tryz.underlying22 rfl) (by decide) ?_
 refine VL.q (q_lss rfl rfl) (by decide) ?_
 refine Zl ?_
 refine VC.cond_dec rfl (fun h90 => ?_) (fun h90 => ?_)
 ·
  replace hS := it_t h90 hS
  refine Zk ?_
  refine Zq (Zb (Zq (Zr ?_)))
  refine Za ?_
  refine Zl ?_
  refine Zb ?_
  refine VC.iter (S := Int) (fun (k16_27 : Int) => k16_27) (fun (k16_27 : Int) => [(0, l_0.val), (5, ptr q22_2_0 0), (6, ids6_3.val), (10, i64 y52_14), (15, i64 i15_26), (16, i64 k16_27)]) (fun (k16_27 : Int) => Mo.tt) (fun (k16_27 : Int) => Ow.star (Blk q22_2_0 [c0_16.val, c1_17.val] 109) (Ow.star (Sv.own ids6_3 3) (Ow.star (Sv.own c0_16 34) (Ow.star (Mv.own c1_17 Tryz.prog 9 3 kStr kInt) (Ow.emp))))) 0 [0, 5, 6, 10, 15, 16] hS rfl ?_
  clear hS
  rintro k16_27 m2 y2 hS hK2
  show VC _ _ _ _ _ [(0, l_0.val), (5, ptr q22_2_0 0), (6, ids6_3.val), (10, i64 y52_14), (15, i64 i15_26), (16, i64 k16_27)] (Mo.and Mo.tt _) (Ow.star (Blk q22_2_0 [c0_16.val, c1_17.val] 109) (Ow.star (Sv.own ids6_3 3) (Ow.star (Sv.own c0_16 34) (Ow.star (Mv.own c1_17 Tryz.prog 9 3 kStr kInt) (Ow.emp)))))
  refine Zq (Zq (Zr ?_))
  refine Zm ?_
  refine Zm ?_
  refine VL.q (q_lss rfl rfl) (by decide) ?_
  refine Zl ?_
  refine VC.cond_dec rfl (fun h95 => ?_) (fun h95 => ?_)
  ·
   replace hS := it_t h95 hS
   refine Zk ?_
   refine Zq (Zb (Zq ?_))
   refine VC.draw ((List.range 21).map fun k => (k, true)) mixed (by kernel_rfl) (by kernel_rfl) (by kernel_rfl) ?_
   refine VD.q rfl (q_move rfl) (by decide) ?_
   refine VD.q rfl (q_move rfl) (by decide) ?_
   obtain ⟨z100_28, nz100_28, hz100_28, hS⟩ := at_s hS
   refine VD.q rfl (q_ixo (s := ids6_3) Tryz.underlying26 gsz3 rfl rfl nz100_28 (lt_of_get nz100_28 hz100_28)) (by decide) ?_
   refine VD.q rfl (q_elo (s := ids6_3) 3 gone3 rfl hz100_28 rfl) (by decide) ?_
   refine VD.q rfl (q_move rfl) (by decide) ?_
   refine VD.q rfl (q_move rfl) (by decide) ?_
   obtain ⟨z104_29, nz104_29, hz104_29, hS⟩ := at_s hS
   refine VD.q rfl (q_ixo (s := ids6_3) Tryz.underlying26 gsz3 rfl rfl nz104_29 (lt_of_get nz104_29 hz104_29)) (by decide) ?_
   refine VD.q rfl (q_elo (s := ids6_3) 3 gone3 rfl hz104_29 rfl) (by decide) ?_
   refine VD.q rfl (q_eql rfl rfl) (by decide) ?_
   refine VD.q rfl (q_move rfl) (by decide) ?_
   refine VD.q rfl (q_move rfl) (by decide) ?_
   obtain ⟨z109_30, nz109_30, hz109_30, hS⟩ := atm_s hS
   refine VD.deep z109_30.ok hz109_30 (fun _ q => q) ?_
   refine VD.q rfl (q_ixm (s := l_0) Tryz.underlying22 gsz27 rfl rfl nz109_30 (lt_of_get nz109_30 hz109_30)) (by decide) ?_
   refine VD.q rfl (q_el (s := l_0) gone27 rfl hz109_30 rfl) (by decide) ?_
   refine VD.q rfl (q_b2s (s := z109_30) Tryz.underlying27 Tryz.underlying5 Tryz.underlying9 rfl) (by decide) ?_
   refine VD.q rfl (q_move rfl) (by decide) ?_
   refine VD.q rfl (q_move rfl) (by decide) ?_
   obtain ⟨z114_31, nz114_31, hz114_31, hS⟩ := atm_s hS
   refine VD.deep z114_31.ok hz114_31 (fun _ q => q) ?_
   refine VD.q rfl (q_ixm (s := l_0) Tryz.underlying22 gsz27 rfl rfl nz114_31 (lt_of_get nz114_31 hz114_31)) (by decide) ?_
   refine VD.q rfl (q_el (s := l_0) gone27 rfl hz114_31 rfl) (by decide) ?_
   refine VD.q rfl (q_b2s (s := z114_31) Tryz.underlying27 Tryz.underlying5 Tryz.underlying9 rfl) (by decide) ?_
   refine VD.q rfl (q_seq rfl rfl) (by decide) ?_
   refine VD.q rfl (q_bneq Tryz.underlying4 rfl rfl) (by decide) ?_
   refine VD.to (fun _ _ h => h) ?_
   refine VC.keep (ρ' := [(0, l_0.val), (5, ptr q22_2_0 0), (6, ids6_3.val), (10, i64 y52_14), (15, i64 i15_26), (16, i64 k16_27), (118, .bool (!decide ((decide (z100_28 = z104_29)) = (decide (z109_30.l = z114_31.l)))))]) [0, 5, 6, 10, 15, 16, 118] rfl ?_
   refine VC.cond_ndec rfl (fun h118 => ?_) (fun h118 => ?_)
   ·
    replace hS := it_f h118 hS
    refine Zq (Zr ?_)
    refine Za ?_
    refine Zl ?_
    replace hS := up2 hS hK2
    replace hS := up2 hS hK1
    cases hS
    exact Ze
   replace hS := it_t h118 hS
   refine Zk ?_
   refine Zr ?_
   refine Zm ?_
   obtain ⟨b97, hS⟩ := gd_s hS
   refine VL.q (q_add rfl rfl b97) (by decide) ?_
   refine Za ?_
   refine VL.rnd (k16_27 + 1) [0, 5, 6, 10, 15, 16] (fun _ _ h => h) (go2 hS hK2) rfl
  replace hS := it_f h95 hS
  replace hS := up2 hS hK2
  refine Zx ?_
  refine Zr ?_
  refine Zm ?_
  obtain ⟨b92, hS⟩ := gd_s hS
  refine VL.q (q_add rfl rfl b92) (by decide) ?_
  refine Za ?_
  refine VL.rnd (i15_26 + 1) [0, 5, 6, 10, 15] (fun _ _ h => h) (go2 hS hK1) rfl
 replace hS := it_f h90 hS
 replace hS := up2 hS hK1
 refine Zx ?_
 refine Zq (Zr ?_)
 refine Zm ?_
 obtain ⟨y120_32, ey120_32, hS⟩ := bd_s hS
 refine VL.callO (store_Store_Len_ct q22_2_0 (⟨c0_16, c1_17⟩ : StoreStore) ey120_32) rfl (by decide) ?_
 rintro _ _
 try dsimp only
 refine Zm ?_
 refine VL.q (q_eql rfl rfl) (by decide) ?_
 refine Zm ?_
 refine VL.split_dec 123 rfl (fun h123 => ?_) (fun h123 => ?_)
 ·
  replace hS := it_t h123 hS
  refine Zg ?_
  refine Zg ?_
  refine VL.gy rfl rfl (q_lnm Sv.l (s := l_0) Tryz.underlying22 rfl) (by decide) ?_
  refine VL.gy rfl rfl (q_leq rfl rfl) (by decide) ?_
  refine Zt ?_
  refine Za ?_
  refine Zl ?_
  refine VC.keep (ρ' := [(4, .bool (decide (y52_14 ≤ ((l_0.l.map Sv.l).length : Int))))]) [4] rfl ?_
  cases hS
  exact Ze
 replace hS := it_f h123 hS
 refine VL.runs 6 [(4, some false)] (by kernel_rfl) ?_
 refine Zl ?_
 refine VC.keep (ρ' := [(4, .bool false)]) [4] rfl ?_
 cases hS
 exact Ze
end Go.Proofs.YtleokmhhloamaaaGreatDoor
end

section
namespace Go.S
theorem at_get {α : Type} {l : List α} {i : Int} (h0 : 0 ≤ i) (h : i < l.length) : ∃ z, l[i.toNat]? = some z := ⟨_, List.getElem?_eq_getElem (by omega)⟩
end Go.S
end

section
namespace Go.S
theorem take_snoc {α : Type} {l : List α} {i : Int} {z : α} (h0 : 0 ≤ i) (h : l[i.toNat]? = some z) : l.take (i + 1).toNat = l.take i.toNat ++ [z] := by
  rw [show (i + 1).toNat = i.toNat + 1 by omega, List.take_add_one, h]; rfl
theorem ok_jnP {S R : Type} {K : S → Option R} {F : (S → Option R) → Option R} {Q : R → Prop} (P : S → Prop) (hK : ∀ s, P s → Ok (K s) Q) (hF : ∀ K' : S → Option R, (∀ s, P s → Ok (K' s) Q) → Ok (F K') Q) : Ok (jn K F) Q := hF K hK
end Go.S
end

section
namespace Go.S
open Go
theorem wU64 {n : Nat} (h : n < 18446744073709551616) : IntKind.wrap .u64 (n : Int) = n := IntWalk.u64_in _ (by omega)
theorem wU8 {n : Nat} (h : n < 256) : IntKind.wrap .u8 (n : Int) = n := IntWalk.u8_in _ (by omega)
theorem wU8_rng (x : Int) : 0 ≤ IntKind.wrap .u8 x ∧ IntKind.wrap .u8 x ≤ 255 := by
  simp only [IntKind.wrap, IntKind.bits, IntKind.signed]
  have h1 := Int.emod_nonneg x (b := 2 ^ 8) (by decide)
  have h2 := Int.emod_lt_of_pos x (b := 2 ^ 8) (by decide)
  simp at h1 h2 ⊢
  omega
theorem bAnd64 {x y : Nat} (hx : x < 18446744073709551616) (hy : y < 18446744073709551616) : bAnd .u64 x y = ((x &&& y : Nat) : Int) := by
  unfold bAnd
  have h : (BitVec.ofInt IntKind.u64.bits (x : Int) &&& BitVec.ofInt IntKind.u64.bits (y : Int)).toNat = x &&& y := by
    show (BitVec.ofInt 64 (x : Int) &&& BitVec.ofInt 64 (y : Int)).toNat = x &&& y
    rw [BitVec.toNat_and, BitVec.ofInt_natCast, BitVec.ofInt_natCast, BitVec.toNat_ofNat, BitVec.toNat_ofNat, Nat.mod_eq_of_lt (by omega), Nat.mod_eq_of_lt (by omega)]
  rw [h]
  exact wU64 (Nat.lt_of_le_of_lt Nat.and_le_left hx)
theorem bOr8 {x y : Nat} (hx : x < 256) (hy : y < 256) : bOr .u8 x y = ((x ||| y : Nat) : Int) := by
  unfold bOr
  have h : (BitVec.ofInt IntKind.u8.bits (x : Int) ||| BitVec.ofInt IntKind.u8.bits (y : Int)).toNat = x ||| y := by
    show (BitVec.ofInt 8 (x : Int) ||| BitVec.ofInt 8 (y : Int)).toNat = x ||| y
    rw [BitVec.toNat_or, BitVec.ofInt_natCast, BitVec.ofInt_natCast, BitVec.toNat_ofNat, BitVec.toNat_ofNat, Nat.mod_eq_of_lt (by omega), Nat.mod_eq_of_lt (by omega)]
  rw [h]
  exact wU8 (Nat.or_lt_two_pow (n := 8) hx hy)
theorem bXor64 {x y : Nat} (hx : x < 18446744073709551616) (hy : y < 18446744073709551616) : bXor .u64 x y = ((x ^^^ y : Nat) : Int) := by
  unfold bXor
  have h : (BitVec.ofInt IntKind.u64.bits (x : Int) ^^^ BitVec.ofInt IntKind.u64.bits (y : Int)).toNat = x ^^^ y := by
    show (BitVec.ofInt 64 (x : Int) ^^^ BitVec.ofInt 64 (y : Int)).toNat = x ^^^ y
    rw [BitVec.toNat_xor, BitVec.ofInt_natCast, BitVec.ofInt_natCast, BitVec.toNat_ofNat, BitVec.toNat_ofNat, Nat.mod_eq_of_lt (by omega), Nat.mod_eq_of_lt (by omega)]
  rw [h]
  exact wU64 (Nat.xor_lt_two_pow (n := 64) hx hy)
theorem sHr64 (x k : Nat) (hk : k ≤ 64) : sHr .u64 x (k : Int) = ((x / 2 ^ k : Nat) : Int) := by
  unfold sHr
  show Int.fdiv (x : Int) (2 ^ min (k : Int).toNat 64) = _
  rw [Int.toNat_natCast, Nat.min_eq_left hk]
  rw [show ((2 : Int) ^ k) = ((2 ^ k : Nat) : Int) by simp]
  rw [Int.fdiv_eq_ediv_of_nonneg _ (Int.natCast_nonneg _)]
  simp
theorem sHl64 (x k : Nat) (hk : k ≤ 64) (h : x * 2 ^ k < 18446744073709551616) : sHl .u64 x (k : Int) = ((x * 2 ^ k : Nat) : Int) := by
  unfold sHl
  show IntKind.wrap .u64 ((x : Int) * 2 ^ min (k : Int).toNat 64) = _
  rw [Int.toNat_natCast, Nat.min_eq_left hk, show ((x : Int) * 2 ^ k) = ((x * 2 ^ k : Nat) : Int) by simp]
  exact wU64 h
theorem and127 (x : Nat) : x &&& 127 = x % 128 := Nat.and_two_pow_sub_one_eq_mod x 7
theorem or128 {x : Nat} (h : x < 128) : x ||| 128 = x + 128 := by
  have := Nat.two_pow_add_eq_or_of_lt (i := 7) h 1
  rw [Nat.or_comm, show (128 : Nat) = 2 ^ 7 * 1 by rfl, ← this]
  omega
end Go.S
end

section
namespace Go.S
open Go
end Go.S
end

section
namespace Go.S
open Go
def crcB (c : Int) : Int := if bAnd .u32 c 1 = 1 then bXor .u32 (sHr .u32 c 1) 3988292384 else sHr .u32 c 1
def crcN : Nat → Int → Int
  | 0, c => c
  | n + 1, c => crcN n (crcB c)
def crcZ (c : Int) (z : UInt8) : Int := crcN 8 (bXor .u32 c (IntKind.wrap .u32 (z.toNat : Int)))
def sumS (b : List UInt8) : Int := bNot .u32 (b.foldl crcZ 4294967295)
def b8 (x : Int) : UInt8 := UInt8.ofNat (IntKind.wrap .u8 x).toNat
def putS (b : List UInt8) : List UInt8 := b ++ [b8 (sumS b), b8 (sHr .u32 (sumS b) 8), b8 (sHr .u32 (sumS b) 16), b8 (sHr .u32 (sumS b) 24)]
theorem putS_len (b : List UInt8) : (putS b).length = b.length + 4 := by simp [putS]
theorem loop8 {R : Type} {c : Int} {K : Int → Option R} {Q : R → Prop} (hK : Ok (K (crcN 8 c)) Q) {B : Int × Int → Option ((Int × Int) ⊕ R)}
    (hB : ∀ t, B t = if t.2 < 8 then (if bAnd .u32 t.1 1 = 1 then (gd (I64 (t.2 + 1)) (go ((bXor .u32 (sHr .u32 t.1 1) 3988292384), (t.2 + 1)))) else (gd (I64 (t.2 + 1)) (go ((sHr .u32 t.1 1), (t.2 + 1))))) else up (K t.1)) : Ok (iter B (c, 0)) Q := by
  refine ok_iter (I := fun t => 0 ≤ t.2 ∧ t.2 ≤ 8 ∧ crcN (8 - t.2.toNat) t.1 = crcN 8 c) (μ := fun t => (8 - t.2).toNat) ?_ ⟨by simp, by simp, rfl⟩
  rintro ⟨x, i⟩ ⟨i0, i1, i2⟩
  rw [hB]
  dsimp only at i0 i1 i2 ⊢
  simp only [ok_if, ok_up, ok_gd, ok_go]
  refine ⟨fun hi => ?_, fun hi => ?_⟩
  · rw [show 8 - i.toNat = (8 - (i + 1).toNat) + 1 by omega, crcN] at i2
    refine ⟨fun h => ⟨⟨by omega, by omega⟩, ⟨by omega, by omega, ?_⟩, by omega⟩, fun h => ⟨⟨by omega, by omega⟩, ⟨by omega, by omega, ?_⟩, by omega⟩⟩
    · rw [crcB, if_pos h] at i2; exact i2
    · rw [crcB, if_neg h] at i2; exact i2
  · rw [show 8 - i.toNat = 0 by omega, crcN] at i2
    rw [i2]; exact hK
theorem foldl_snoc {α β : Type} (f : β → α → β) (a : β) (l : List α) (z : α) : (l ++ [z]).foldl f a = f (l.foldl f a) z := by simp
theorem sum_ok {b : List UInt8} (h : b.length ≤ 1000000000) : Sh.seal_Sum [b] = some (sumS b) := by
  apply Ok.eq
  unfold Sh.seal_Sum
  refine ok_iter (I := fun t => (t.2 = 0 ∧ t.1 = 4294967295) ∨ (t.2 = 1 ∧ t.1 = b.foldl crcZ 4294967295)) (μ := fun t => (1 - t.2).toNat) ?_ (.inl ⟨rfl, rfl⟩)
  rintro ⟨c, i⟩ hh
  dsimp only at hh ⊢
  rcases hh with ⟨rfl, rfl⟩ | ⟨rfl, rfl⟩
  · rw [if_pos (by simp)]
    simp only [ok_bd, ok_at]
    refine ⟨by omega, b, rfl, ?_⟩
    refine ok_iter (I := fun t => 0 ≤ t.2 ∧ t.2 ≤ b.length ∧ t.1 = (b.take t.2.toNat).foldl crcZ 4294967295) (μ := fun t => (b.length - t.2).toNat) ?_ ⟨by simp, by simp, by simp⟩
    rintro ⟨c, i⟩ ⟨i0, i1, i2⟩
    dsimp only at i0 i1 i2 ⊢
    simp only [ok_if, ok_up, ok_bd, ok_gd, ok_go, ok_at]
    refine ⟨fun hi => ?_, fun hi => ?_⟩
    · obtain ⟨z, hz⟩ := at_get (l := b) i0 hi
      refine ⟨i0, z, hz, loop8 (K := fun s => gd (I64 (i + 1)) (go (s, (i + 1)))) ?_ (fun t => rfl)⟩
      simp only [ok_gd, ok_go]
      refine ⟨⟨by omega, by omega⟩, ⟨by omega, by omega, ?_⟩, by omega⟩
      rw [take_snoc i0 hz, foldl_snoc, ← i2]; rfl
    · refine ⟨⟨by decide, by decide⟩, .inr ⟨by decide, ?_⟩, by decide⟩
      rw [i2, show i.toNat = b.length by omega, List.take_length]
  · rw [if_neg (by simp), ok_up, ok_some]; rfl
theorem concat_ok {a b : List UInt8} (h : a.length + b.length ≤ 1000000000) : Sh.slices_Concat_byte_byte [a, b] = some (a ++ b) := by
  apply Ok.eq
  unfold Sh.slices_Concat_byte_byte
  refine ok_iter (I := fun t => (t.2 = 0 ∧ t.1 = 0) ∨ (t.2 = 1 ∧ t.1 = a.length) ∨ (t.2 = 2 ∧ t.1 = a.length + b.length)) (μ := fun t => (2 - t.2).toNat) ?_ (.inl ⟨rfl, rfl⟩)
  rintro ⟨c, i⟩ hh
  dsimp only at hh ⊢
  simp only [ok_if, ok_up, ok_bd, ok_gd, ok_go, ok_at]
  rcases hh with ⟨rfl, rfl⟩ | ⟨rfl, rfl⟩ | ⟨rfl, rfl⟩
  · refine ⟨fun _ => ⟨by omega, a, rfl, ⟨by omega, by omega⟩, fun h => by omega, fun _ => ⟨⟨by decide, by decide⟩, .inr (.inl ⟨by decide, by omega⟩), by decide⟩⟩, fun h => absurd (by simp) h⟩
  · refine ⟨fun _ => ⟨by omega, b, rfl, ⟨by omega, by omega⟩, fun h => by omega, fun _ => ⟨⟨by decide, by decide⟩, .inr (.inr ⟨by decide, by omega⟩), by decide⟩⟩, fun h => absurd (by simp) h⟩
  · refine ⟨fun h => absurd h (by simp), fun _ => ?_⟩
    have hg : Sh.slices_Grow_byte_byte ((a.length : Int) + b.length) = some [] := by
      apply Ok.eq
      unfold Sh.slices_Grow_byte_byte
      simp only [ok_if, ok_gd, ok_lt, ok_some]
      exact ⟨fun h => by omega, fun _ => ⟨⟨by decide, by decide⟩, ⟨by omega, by omega⟩, fun h => ⟨⟨by omega, by omega⟩, trivial⟩, fun _ => trivial⟩⟩
    refine Ok.of hg ?_
    refine ok_iter (I := fun t => (t.2 = 0 ∧ t.1 = []) ∨ (t.2 = 1 ∧ t.1 = a) ∨ (t.2 = 2 ∧ t.1 = a ++ b)) (μ := fun t => (2 - t.2).toNat) ?_ (.inl ⟨rfl, rfl⟩)
    rintro ⟨c, i⟩ hh
    dsimp only at hh ⊢
    simp only [ok_if, ok_up, ok_bd, ok_gd, ok_lt, ok_go, ok_some, ok_at]
    rcases hh with ⟨rfl, rfl⟩ | ⟨rfl, rfl⟩ | ⟨rfl, rfl⟩
    · exact ⟨fun _ => ⟨by omega, a, rfl, by simp; omega, ⟨by decide, by decide⟩, .inr (.inl ⟨by decide, by simp⟩), by decide⟩, fun h => absurd (by simp) h⟩
    · exact ⟨fun _ => ⟨by omega, b, rfl, by omega, ⟨by decide, by decide⟩, .inr (.inr ⟨by decide, rfl⟩), by decide⟩, fun h => absurd (by simp) h⟩
    · exact ⟨fun h => absurd h (by simp), fun _ => rfl⟩
theorem put_ok {b : List UInt8} (h : b.length ≤ 100000000) : Sh.seal_Put b = some (putS b) := by
  apply Ok.eq
  unfold Sh.seal_Put
  simp only [ok_lt, sum_ok (b := b) (by omega), ok_bd, ok_gd, ok_some, wU8_rng]
  refine ⟨by simp, by simp, by simp, by simp, Ok.of (concat_ok (by simp; omega)) rfl⟩
theorem clone_b {b : List UInt8} (h : b.length ≤ 4294967296) : Sh.slices_Clone_byte_byte b = some b := by
  apply Ok.eq
  unfold Sh.slices_Clone_byte_byte
  simp only [ok_lt, ok_gd, ok_some]
  exact ⟨by simpa using h, rfl⟩
theorem clip_b (b : List UInt8) : Sh.slices_Clip_byte_byte b = some b := by
  apply Ok.eq
  unfold Sh.slices_Clip_byte_byte
  simp only [ok_lt, ok_gd, ok_some]
  exact ⟨⟨by omega, by omega⟩, by simp⟩
end Go.S
end

section
namespace Go.S
open Go
def vu (u : Nat) : List UInt8 := if u < 128 then [UInt8.ofNat u] else UInt8.ofNat (u % 128 + 128) :: vu (u / 128)
termination_by u
decreasing_by omega
theorem vu_lo {u : Nat} (h : u < 128) : vu u = [UInt8.ofNat u] := by rw [vu, if_pos h]
theorem vu_hi {u : Nat} (h : ¬ u < 128) : vu u = UInt8.ofNat (u % 128 + 128) :: vu (u / 128) := by rw [vu, if_neg h]
theorem vu_len : ∀ (k u : Nat), 1 ≤ k → u < 128 ^ k → (vu u).length ≤ k
  | k, u, hk, h => by
    by_cases h1 : u < 128
    · rw [vu_lo h1]; simpa using hk
    · rw [vu_hi h1]
      match k, hk with
      | k + 1, _ =>
        have hk1 : 1 ≤ k := by
          rcases Nat.eq_zero_or_pos k with q | q
          · subst q; simp at h; omega
          · exact q
        have := vu_len k (u / 128) hk1 (by rw [Nat.pow_succ] at h; omega)
        simp; omega
  termination_by k => k
def zigN (n : Int) : Nat := if 0 ≤ n then (2 * n).toNat else (-2 * n - 1).toNat
def encI (n : Int) : List UInt8 := vu (zigN n)
theorem zigN_lt {n : Int} (h : I64 n) : zigN n < 18446744073709551616 := by
  obtain ⟨h1, h2⟩ := h
  unfold zigN
  split <;> omega
theorem encI_len {n : Int} (h : I64 n) : (encI n).length ≤ 10 := vu_len 10 _ (by decide) (by have := zigN_lt h; omega)
def encT (s : List UInt8) : List UInt8 := encI s.length ++ s
theorem zig_prog {n : Int} (h : I64 n) : bXor .u64 (sHl .u64 (IntKind.wrap .u64 n) 1) (IntKind.wrap .u64 (sHr .i64 n 63)) = (zigN n : Int) := by
  obtain ⟨h1, h2⟩ := h
  have hs : sHr .i64 n 63 = if 0 ≤ n then 0 else -1 := by
    unfold sHr
    show Int.fdiv n (2 ^ 63) = _
    rw [Int.fdiv_eq_ediv_of_nonneg _ (by decide)]
    split <;> omega
  unfold zigN
  rw [hs]
  by_cases h0 : 0 ≤ n
  · rw [if_pos h0, if_pos h0]
    obtain ⟨m, rfl⟩ : ∃ m : Nat, n = m := ⟨n.toNat, by omega⟩
    have e1 := sHl64 m 1 (by decide) (by omega)
    rw [wU64 (by omega)]
    rw [show ((1 : Nat) : Int) = 1 from rfl] at e1
    rw [e1, show IntKind.wrap .u64 (0 : Int) = ((0 : Nat) : Int) from rfl, bXor64 (by omega) (by omega), Nat.xor_zero]
    omega
  · rw [if_neg h0, if_neg h0]
    have e0 : IntKind.wrap .u64 n = n + 18446744073709551616 := by
      simp only [IntKind.wrap, IntKind.bits, IntKind.signed]
      simp
      omega
    have e1 : sHl .u64 (n + 18446744073709551616) 1 = 2 * n + 18446744073709551616 := by
      unfold sHl
      show IntKind.wrap .u64 ((n + 18446744073709551616) * 2 ^ 1) = _
      simp only [IntKind.wrap, IntKind.bits, IntKind.signed]
      simp
      omega
    have e2 : IntKind.wrap .u64 (-1) = ((18446744073709551615 : Nat) : Int) := by decide
    rw [e0, e1, e2]
    obtain ⟨m, hm⟩ : ∃ m : Nat, 2 * n + 18446744073709551616 = m := ⟨(2 * n + 18446744073709551616).toNat, by omega⟩
    rw [hm, bXor64 (by omega) (by omega)]
    have hx : m ^^^ 18446744073709551615 = 18446744073709551615 - m := by
      have hb : (BitVec.ofNat 64 m ^^^ BitVec.allOnes 64) = ~~~ (BitVec.ofNat 64 m) := BitVec.xor_allOnes
      have := congrArg BitVec.toNat hb
      rw [BitVec.toNat_xor, BitVec.toNat_not, BitVec.toNat_ofNat, Nat.mod_eq_of_lt (by omega), BitVec.toNat_allOnes] at this
      exact this
    rw [hx]
    omega
theorem loop_enc {v : Nat} {c : List UInt8} {R : Type} (hv : v < 18446744073709551616) (hc : c.length + 10 ≤ 4294967296) {K : List UInt8 → Option R} {Q : R → Prop} (hK : Ok (K (c ++ vu v)) Q)
    (B : Int × List UInt8 → Option ((Int × List UInt8) ⊕ R)) (hB : ∀ t, B t = if 128 ≤ t.1 then (gd ((0 : Int) ≤ (bOr .u8 (IntKind.wrap .u8 (bAnd .u64 t.1 127)) 128) ∧ (bOr .u8 (IntKind.wrap .u8 (bAnd .u64 t.1 127)) 128) ≤ 255) (
      lt (UInt8.ofNat (bOr .u8 (IntKind.wrap .u8 (bAnd .u64 t.1 127)) 128).toNat) (fun u31_7 => lt [u31_7] (fun y31_8 => gd (t.2.length + y31_8.length ≤ 4294967296) (lt (t.2 ++ y31_8) (fun y32_10 => go ((sHr .u64 t.1 7), y32_10)))))))
      else up (gd ((0 : Int) ≤ (IntKind.wrap .u8 t.1) ∧ (IntKind.wrap .u8 t.1) ≤ 255) (lt (UInt8.ofNat (IntKind.wrap .u8 t.1).toNat) (fun u44_12 => lt [u44_12] (fun y44_13 => gd (t.2.length + y44_13.length ≤ 4294967296) (lt (t.2 ++ y44_13) K)))))) :
    Ok (iter B ((v : Int), c)) Q := by
  have hlen := vu_len 10 v (by decide) (by omega)
  refine ok_iter (I := fun t => ∃ u : Nat, t.1 = u ∧ u < 18446744073709551616 ∧ t.2 ++ vu u = c ++ vu v) (μ := fun t => t.1.toNat) ?_ ⟨v, rfl, hv, rfl⟩
  rintro ⟨v', c'⟩ ⟨u, hu, hu2, hcc⟩
  dsimp only at hu hcc
  subst hu
  have hl2 := congrArg List.length hcc
  simp only [List.length_append] at hl2
  rw [hB]
  dsimp only
  simp only [ok_if, ok_up, ok_gd, ok_lt, ok_go]
  refine ⟨fun h => ?_, fun h => ?_⟩
  · have h' : ¬ u < 128 := by omega
    have e1 : bAnd .u64 (u : Int) 127 = ((u % 128 : Nat) : Int) := by
      have := bAnd64 (x := u) (y := 127) hu2 (by decide)
      rw [and127] at this; exact this
    have e2 : bOr .u8 (IntKind.wrap .u8 (bAnd .u64 (u : Int) 127)) 128 = ((u % 128 + 128 : Nat) : Int) := by
      rw [e1, wU8 (by omega)]
      have := bOr8 (x := u % 128) (y := 128) (by omega) (by decide)
      rw [or128 (by omega)] at this; exact this
    have e3 : sHr .u64 (u : Int) 7 = ((u / 128 : Nat) : Int) := sHr64 u 7 (by decide)
    rw [e2, e3]
    rw [vu_hi h'] at hcc hl2
    simp only [List.length_cons] at hl2
    refine ⟨⟨by omega, by omega⟩, by simp; omega, ⟨u / 128, rfl, by omega, ?_⟩, by omega⟩
    rw [← hcc, Int.toNat_natCast]; simp
  · have h' : u < 128 := by omega
    have e1 : IntKind.wrap .u8 (u : Int) = u := wU8 (by omega)
    rw [e1, Int.toNat_natCast]
    rw [vu_lo h'] at hcc hl2
    rw [hcc]
    exact ⟨⟨by omega, by omega⟩, by simp at hl2 ⊢; omega, hK⟩
theorem encInt_ok {e : CodecEncP} {l : List Int} (h : ∀ n ∈ l, I64 n) (hl : e.b.length + 10 * l.length ≤ 4294967296) (hn : l.length ≤ 1000000) : Sh.codec_Enc_Int e l = some ⟨e.b ++ l.flatMap encI⟩ := by
  apply Ok.eq
  unfold Sh.codec_Enc_Int
  have hb : ∀ k : Nat, k ≤ l.length → ((l.take k).flatMap encI).length ≤ 10 * k := fun k hk => by
    induction k with
    | zero => simp
    | succ k ih =>
      have hx : l[k]? = some l[k] := List.getElem?_eq_getElem (by omega)
      have e : l.take (k + 1) = l.take k ++ [l[k]] := by rw [List.take_add_one, hx]; rfl
      have := ih (by omega)
      have := encI_len (h l[k] (List.getElem_mem _))
      rw [e, List.flatMap_append, List.length_append, List.flatMap_singleton]
      omega
  refine ok_iter (I := fun t => 0 ≤ t.1 ∧ t.1 ≤ l.length ∧ t.2 = e.b ++ (l.take t.1.toNat).flatMap encI) (μ := fun t => (l.length - t.1).toNat) ?_ ⟨by simp, by simp, by simp⟩
  rintro ⟨i, c⟩ ⟨i0, i1, i2⟩
  dsimp only at i0 i1 i2 ⊢
  have hbi := hb i.toNat (by omega)
  simp only [ok_if, ok_up, ok_bd, ok_some, ok_at]
  refine ⟨fun hi => ?_, fun hi => ?_⟩
  · obtain ⟨z, hz⟩ := at_get (l := l) i0 hi
    have hzI := h z (List.mem_of_getElem? hz)
    refine ⟨i0, z, hz, ?_⟩
    rw [zig_prog hzI]
    refine loop_enc (zigN_lt hzI) (by rw [i2, List.length_append]; omega) (K := fun y45_15 => gd (I64 (i + 1)) (go ((i + 1), y45_15))) ?_ _ (fun t => rfl)
    simp only [ok_gd, ok_go]
    refine ⟨⟨by omega, by omega⟩, ⟨by omega, by omega, ?_⟩, by omega⟩
    rw [take_snoc i0 hz, List.flatMap_append, i2]; simp [encI]
  · rw [i2, show i.toNat = l.length by omega, List.take_length]
theorem encText_ok {e : CodecEncP} {s : List UInt8} (hl : e.b.length + s.length + 20 ≤ 4294967296) : Sh.codec_Enc_Text e [s] = some ⟨e.b ++ encT s⟩ := by
  apply Ok.eq
  unfold Sh.codec_Enc_Text
  have hI : I64 (s.length : Int) := ⟨by omega, by omega⟩
  have hle := encI_len hI
  refine ok_iter (I := fun t => (t.1 = 0 ∧ t.2 = e.b) ∨ (t.1 = 1 ∧ t.2 = e.b ++ encT s)) (μ := fun t => (1 - t.1).toNat) ?_ (.inl ⟨rfl, rfl⟩)
  rintro ⟨i, c⟩ h
  dsimp only at h ⊢
  rcases h with ⟨rfl, rfl⟩ | ⟨rfl, rfl⟩
  · rw [if_pos (by simp)]
    simp only [ok_bd, ok_gd, ok_lt, ok_go, ok_at]
    refine ⟨by omega, s, rfl, ?_⟩
    have he := encInt_ok (e := ⟨e.b⟩) (l := [(s.length : Int)]) (fun n hn => by rw [List.mem_singleton.1 hn]; exact hI) (by simp; omega) (by simp)
    rw [List.flatMap_singleton] at he
    refine Ok.of he ⟨by simp; omega, ⟨by decide, by decide⟩, .inr ⟨rfl, ?_⟩, by decide⟩
    simp [encT]
  · rw [if_neg (by simp), ok_up, ok_some]
end Go.S
end

section
namespace Go.S
theorem gl_at {α : Type} {l : List α} {i : Int} (h0 : 0 ≤ i) (h : i < l.length) : ∃ z, l[i.toNat]? = some z := ⟨_, List.getElem?_eq_getElem (by omega)⟩
theorem gl_atv {α : Type} {l : List α} {i : Int} {z : α} (h0 : 0 ≤ i) (h : l[i.toNat]? = some z) : at_ l i = some z := by
  unfold at_; rw [if_pos h0, h]
end Go.S
end

section
namespace Go.S
open Go
def blob (d : List UInt8) : ObjectObjectP := ⟨1, d, [], 0, [], 0, []⟩
def encB (d : List UInt8) : List UInt8 := putS (encI 1 ++ encT d)
theorem encT_len {d : List UInt8} (h : d.length ≤ 300) : (encT d).length = d.length + (if d.length < 64 then 1 else 2) := by
  unfold encT encI
  have hz : zigN (d.length : Int) = 2 * d.length := by unfold zigN; rw [if_pos (by omega)]; omega
  rw [hz, List.length_append]
  split
  · rw [vu_lo (by omega)]; simp; omega
  · rw [vu_hi (by omega), vu_lo (by omega)]; simp; omega
theorem encB_inj {d e : List UInt8} (hd : d.length ≤ 300) (he : e.length ≤ 300) (h : encB d = encB e) : d = e := by
  unfold encB putS at h
  have h1 := (List.append_inj' h (by simp)).1
  have h2 := List.append_cancel_left h1
  have h3 := congrArg List.length h2
  rw [encT_len hd, encT_len he] at h3
  have hl : d.length = e.length := by
    split at h3 <;> split at h3 <;> omega
  unfold encT at h2
  rw [hl] at h2
  exact List.append_cancel_left h2
end Go.S
end

section
namespace Go.S
open Go
theorem encI1 : encI 1 = [2] := by
  unfold encI
  have : zigN 1 = 2 := by decide
  rw [this, vu_lo (by decide)]; rfl
theorem encB_len {d : List UInt8} (h : d.length ≤ 300) : (encB d).length ≤ 400 := by
  unfold encB
  rw [putS_len, List.length_append, encT_len h, encI1]
  simp only [List.length_cons, List.length_nil]
  split <;> omega
theorem encodeB {d : List UInt8} (h : d.length ≤ 300) : Sh.object_Encode (blob d) = some (encB d, Err.nil) := by
  have hc : Sh.object_Check (blob d) = some Err.nil := by
    unfold Sh.object_Check Sh.object_wrong blob
    rw [if_pos (by rfl), if_neg (by dsimp only; omega)]
    rfl
  have hl : (encT d).length ≤ 302 := by rw [encT_len h]; split <;> omega
  have h1 : Sh.codec_Enc_Int (⟨[]⟩ : CodecEncP) [1] = some ⟨encI 1⟩ := by
    rw [encInt_ok (by intro n hn; cases List.mem_singleton.1 hn; exact ⟨by omega, by omega⟩) (by simp) (by simp)]
    simp
  have h2 : Sh.codec_Enc_Text (⟨encI 1⟩ : CodecEncP) [d] = some ⟨encI 1 ++ encT d⟩ := encText_ok (by rw [encI1]; simp; omega)
  have hl2 : (encI 1 ++ encT d).length ≤ 400 := by rw [encI1]; simp; omega
  unfold Sh.object_Encode
  rw [hc, Option.bind_some, if_pos (by rfl)]
  unfold lt jn
  show ((Sh.codec_Enc_Int (⟨[]⟩ : CodecEncP) [1]).bind _) = _
  rw [h1, Option.bind_some]
  dsimp only
  rw [if_pos (show (blob d).kind = 1 from rfl)]
  show ((Sh.codec_Enc_Text (⟨encI 1⟩ : CodecEncP) [d]).bind _) = _
  rw [h2, Option.bind_some]
  unfold Sh.codec_Enc_Bytes
  dsimp only
  rw [clone_b (by omega), Option.bind_some, clip_b, Option.bind_some, Option.bind_some, put_ok (by omega), Option.bind_some]
  rfl
def byR : List (List UInt8) → List (List UInt8 × Int)
  | [] => []
  | d :: r => (encB d, (r.length : Int) + 1) :: byR r
def numR : List (List UInt8) → List UInt8 → Int
  | [], _ => 0
  | e :: r, d => if e = d then (r.length : Int) + 1 else numR r d
def Sht (r : List (List UInt8)) : Prop := ∀ d ∈ r, d.length ≤ 300
theorem byR_len : ∀ r : List (List UInt8), (byR r).length = r.length
  | [] => rfl
  | d :: r => by simp [byR, byR_len r]
theorem mget_byR {d : List UInt8} (hd : d.length ≤ 300) : ∀ {r : List (List UInt8)}, Sht r → mget (byR r) (encB d) = if d ∈ r then some (numR r d) else none
  | [], _ => by simp [byR, mget]
  | e :: r, h => by
    have ih := mget_byR hd (r := r) fun x hx => h x (List.mem_cons_of_mem _ hx)
    have he := h e (List.mem_cons_self ..)
    unfold byR numR
    by_cases q : e = d
    · subst q
      rw [mget_same]; simp
    · rw [mget_other _ _ (fun k => q (encB_inj he hd k)), ih, if_neg q]
      simp [Ne.symm q]
theorem putB {d : List UInt8} {r : List (List UInt8)} {c0 : List ObjectObjectP} (hd : d.length ≤ 300) (hr : Sht r) (hl : r.length ≤ 1000) (hc : c0.length = r.length) :
    Sh.store_Store_Put ⟨c0, byR r⟩ (blob d) = some (if d ∈ r then (numR r d, Err.nil, ⟨c0, byR r⟩) else ((r.length : Int) + 1, Err.nil, ⟨c0 ++ [blob d], byR (d :: r)⟩)) := by
  apply Ok.eq
  unfold Sh.store_Store_Put
  rw [encodeB hd, Option.bind_some, if_pos (by rfl)]
  have hrf : Sh.store_refs (blob d) = some ([], []) := by
    unfold Sh.store_refs jn blob
    rfl
  rw [hrf, Option.bind_some]
  have hle := encB_len hd
  have hm := mget_byR hd hr
  have hbl := byR_len r
  refine ok_iter (I := fun i => i = 0) (μ := fun _ => 0) ?_ rfl
  rintro i rfl
  rw [if_neg (by simp)]
  refine ok_up.2 (ok_gd.2 ⟨by dsimp only; omega, ?_⟩)
  dsimp only
  rw [hm]
  by_cases q : d ∈ r
  · rw [if_pos q, if_pos (by rfl), if_pos q]
    exact ok_some.2 rfl
  · rw [if_neg q, if_neg (by simp), if_neg q, if_neg (by omega)]
    have ha : Sh.store_apart (blob d) = some (blob d) := by
      unfold Sh.store_apart
      rw [if_pos (show (blob d).kind = 1 from rfl)]
      show ((Sh.slices_Clone_byte_byte d).bind _) = _
      rw [clone_b (by omega), Option.bind_some, clip_b, Option.bind_some]
      rfl
    rw [ha, Option.bind_some]
    simp only [ok_lt, ok_gd]
    refine ⟨by simp only [List.length_cons, List.length_nil]; omega, ⟨by omega, by omega, by simp only [List.length_append, List.length_cons, List.length_nil]; exact ⟨by omega, by omega⟩⟩, ok_some.2 ?_⟩
    simp only [List.length_append, List.length_cons, List.length_nil, byR]
    simp [hc, blob]
end Go.S
end

section
namespace Go.S
open Go
theorem known8 : Sh.rectolaw8_known = some true := by decide +kernel
theorem numR_rng {d : List UInt8} : ∀ {r : List (List UInt8)}, d ∈ r → 1 ≤ numR r d ∧ numR r d ≤ r.length
  | e :: r, h => by
    unfold numR
    by_cases q : e = d
    · rw [if_pos q]; simp only [List.length_cons]; omega
    · rw [if_neg q]
      have := numR_rng (r := r) (by simpa [Ne.symm q] using h)
      simp only [List.length_cons]; omega
theorem numR_inj {a b : List UInt8} : ∀ {r : List (List UInt8)}, a ∈ r → b ∈ r → numR r a = numR r b → a = b
  | e :: r, ha, hb, h => by
    unfold numR at h
    by_cases p : e = a
    · by_cases q : e = b
      · rw [← p, q]
      · rw [if_pos p, if_neg q] at h
        have := numR_rng (r := r) (d := b) (by simpa [Ne.symm q] using hb)
        omega
    · have ha' : a ∈ r := by simpa [Ne.symm p] using ha
      by_cases q : e = b
      · rw [if_neg p, if_pos q] at h
        have := numR_rng ha'
        omega
      · rw [if_neg p, if_neg q] at h
        exact numR_inj ha' (by simpa [Ne.symm q] using hb) h
theorem numR_keep {e d : List UInt8} {r : List (List UInt8)} (he : e ∉ r) (hd : d ∈ r) : numR (e :: r) d = numR r d := by
  rw [numR, if_neg]
  intro q
  subst q
  exact he hd
theorem storeOnce_ok (l : List (List UInt8)) (times : Int) (t0 : 0 ≤ times) : Sh.rectolaw8_StoreOnce l times = some true := by
  apply Ok.eq
  unfold Sh.rectolaw8_StoreOnce
  rw [known8, Option.bind_some, if_neg (by simp), ok_if]
  refine ⟨fun _ => ok_some.2 rfl, fun hl => ?_⟩
  have hn : Sh.store_New = some ⟨[], []⟩ := rfl
  rw [hn, Option.bind_some]
  refine ok_iter (I := fun s => ∃ r, 0 ≤ s.2.1 ∧ s.2.1 ≤ l.length ∧ (s.1.length : Int) = s.2.1 ∧ s.2.2.2 = byR r ∧ s.2.2.1.length = r.length ∧ Sht r ∧ (r.length : Int) ≤ s.2.1 ∧ ∀ (j : Nat) d, (j : Int) < s.2.1 → l[j]? = some d → d ∈ r ∧ s.1[j]? = some (numR r d)) (μ := fun s => (l.length - s.2.1).toNat) ?_ ⟨[], by simp, by simp, rfl, rfl, rfl, (fun d h => by cases h), by simp, (fun j d h => by simp at h; omega)⟩
  rintro ⟨ids, i, c0, c1⟩ ⟨r, i0, i1, il, rfl, hc, hr, hrl, hall⟩
  dsimp only at i0 i1 il hc hrl hall ⊢
  by_cases hi : i < l.length
  · obtain ⟨d, hd⟩ := gl_at i0 hi
    rw [if_pos hi, gl_atv i0 hd, Option.bind_some, ok_if]
    refine ⟨fun _ => ok_up.2 (ok_some.2 rfl), fun h300 => ?_⟩
    have hp := putB (d := d) (r := r) (c0 := c0) (by omega) hr (by omega) hc
    show Ok ((Sh.store_Store_Put ⟨c0, byR r⟩ (blob d)).bind _) _
    rw [hp, Option.bind_some]
    by_cases q : d ∈ r
    · rw [if_pos q, if_pos (by rfl)]
      simp only [ok_lt, ok_gd]
      refine ⟨by simp only [List.length_cons, List.length_nil]; omega, ⟨by omega, by omega⟩, ok_go.2 ⟨⟨r, by dsimp only; omega, by dsimp only; omega, by simp only [List.length_append, List.length_cons, List.length_nil]; omega, rfl, hc, hr, by dsimp only; omega, fun j e hj he => ?_⟩, by dsimp only; omega⟩⟩
      dsimp only at hj ⊢
      by_cases hji : (j : Int) < i
      · obtain ⟨h1, h2⟩ := hall j e hji he
        exact ⟨h1, by rw [List.getElem?_append_left (by omega)]; exact h2⟩
      · have ej : j = i.toNat := by omega
        subst ej
        rw [hd] at he; cases he
        exact ⟨q, by rw [List.getElem?_append_right (by omega)]; simp [show i.toNat - ids.length = 0 by omega]⟩
    · rw [if_neg q, if_pos (by rfl)]
      simp only [ok_lt, ok_gd]
      refine ⟨by simp only [List.length_cons, List.length_nil]; omega, ⟨by omega, by omega⟩, ok_go.2 ⟨⟨d :: r, by dsimp only; omega, by dsimp only; omega, by simp only [List.length_append, List.length_cons, List.length_nil]; omega, rfl, by simp [hc], fun e he => ?_, by simp only [List.length_cons]; omega, fun j e hj he => ?_⟩, by dsimp only; omega⟩⟩
      · rcases List.mem_cons.1 he with rfl | he
        · omega
        · exact hr e he
      dsimp only at hj ⊢
      by_cases hji : (j : Int) < i
      · obtain ⟨h1, h2⟩ := hall j e hji he
        exact ⟨List.mem_cons_of_mem _ h1, by rw [List.getElem?_append_left (by omega), numR_keep q h1]; exact h2⟩
      · have ej : j = i.toNat := by omega
        subst ej
        rw [hd] at he; cases he
        exact ⟨List.mem_cons_self .., by rw [List.getElem?_append_right (by omega)]; simp [show i.toNat - ids.length = 0 by omega, numR]⟩
  · have ei : i = l.length := by omega
    subst ei
    rw [if_neg hi]
    refine ok_up.2 ?_
    have hlen : ∀ c : List ObjectObjectP, ∀ b, Sh.store_Store_Len ⟨c, b⟩ = some (c.length : Int) := fun c b => rfl
    rw [hlen, Option.bind_some]
    have hw : IntKind.wrap .i64 (times % 4) = times % 4 := IntWalk.i64_in _ (by omega)
    refine ok_iter (I := fun s => 0 ≤ s.1 ∧ s.1 ≤ 4 ∧ s.2.2 = byR r ∧ s.2.1 = c0) (μ := fun s => (4 - s.1).toNat) ?_ ⟨by dsimp only; omega, by dsimp only; omega, rfl, rfl⟩
    rintro ⟨t, e0, e1⟩ ⟨s0, s1, rfl, rfl⟩
    dsimp only at s0 s1 hc ⊢
    refine ok_gd.2 ⟨⟨t0, by omega⟩, ?_⟩
    rw [hw, ok_if]
    refine ⟨fun ht => ok_gd.2 ⟨⟨by omega, by omega⟩, ?_⟩, fun ht => ok_up.2 ?_⟩
    · refine ok_iter (I := fun s => -1 ≤ s.1 ∧ s.1 < l.length ∧ s.2.2 = byR r ∧ s.2.1 = e0) (μ := fun s => (s.1 + 1).toNat) ?_ ⟨by dsimp only; omega, by dsimp only; omega, rfl, rfl⟩
      rintro ⟨k, f0, f1⟩ ⟨k0, k1, rfl, rfl⟩
      dsimp only at k0 k1 ⊢
      rw [ok_if]
      refine ⟨fun hk => ?_, fun _ => ok_up.2 (ok_gd.2 ⟨⟨by omega, by omega⟩, ok_go.2 ⟨⟨by dsimp only; omega, by dsimp only; omega, rfl, rfl⟩, by dsimp only; omega⟩⟩)⟩
      obtain ⟨d, hd⟩ := gl_at (l := l) hk (by omega)
      obtain ⟨m1, m2⟩ := hall k.toNat d (by omega) hd
      rw [gl_atv hk hd, Option.bind_some]
      have hp := putB (d := d) (r := r) (c0 := f0) (hr d m1) hr (by omega) hc
      show Ok ((Sh.store_Store_Put ⟨f0, byR r⟩ (blob d)).bind _) _
      rw [hp, if_pos m1, Option.bind_some]
      refine ok_jnP (fun x => x = false) ?_ ?_
      · rintro x rfl
        rw [if_neg (by simp)]
        exact ok_gd.2 ⟨⟨by omega, by omega⟩, ok_go.2 ⟨⟨by dsimp only; omega, by dsimp only; omega, rfl, rfl⟩, by dsimp only; omega⟩⟩
      · intro K hK
        rw [if_pos (by rfl), gl_atv hk m2, Option.bind_some]
        exact hK _ (by simp)
    · refine ok_iter (I := fun i => 0 ≤ i ∧ i ≤ l.length) (μ := fun i => (l.length - i).toNat) ?_ ⟨by omega, by omega⟩
      rintro i ⟨i0, i1⟩
      rw [ok_if]
      refine ⟨fun hi => ?_, fun _ => ok_up.2 ?_⟩
      · refine ok_iter (I := fun k => 0 ≤ k ∧ k ≤ i) (μ := fun k => (i - k).toNat) ?_ ⟨by omega, by omega⟩
        rintro k ⟨k0, k1⟩
        rw [ok_if]
        refine ⟨fun hk => ?_, fun _ => ok_up.2 (ok_gd.2 ⟨⟨by omega, by omega⟩, ok_go.2 ⟨⟨by omega, by omega⟩, by omega⟩⟩)⟩
        obtain ⟨a, ha⟩ := gl_at i0 hi
        obtain ⟨b, hb⟩ := gl_at (l := l) k0 (by omega)
        obtain ⟨a1, a2⟩ := hall i.toNat a (by omega) ha
        obtain ⟨b1, b2⟩ := hall k.toNat b (by omega) hb
        rw [gl_atv i0 a2, Option.bind_some, gl_atv k0 b2, Option.bind_some, gl_atv i0 ha, Option.bind_some, gl_atv k0 hb, Option.bind_some]
        have key : (decide (numR r a = numR r b)) = (decide (a = b)) := decide_eq_decide.2 ⟨numR_inj a1 b1, fun e => by rw [e]⟩
        rw [if_pos key]
        exact ok_gd.2 ⟨⟨by omega, by omega⟩, ok_go.2 ⟨⟨by omega, by omega⟩, by omega⟩⟩
      · rw [hlen, Option.bind_some, if_pos rfl]
        exact ok_some.2 (decide_eq_true (by omega))
theorem storeOnce_of (l : List (List UInt8)) (times : Int) (hb : 0 ≤ times ∧ times ≤ 255) : Sh.rectolaw8_StoreOnce l times = some true := storeOnce_ok l times hb.1
end Go.S
end
