/- Part of the proofs of: Two objects are the same just if all that their kind names is, for any two objects. -/
import Derived.ProofKit
import Derived.OpenShut
import Derived.LaidMore
import Derived.Lay
import Derived.SevenTiedAt
import Derived.Stop.Joined
import Derived.Test.YtnkoilkmnpmlmaaDoorC
set_option linter.unusedVariables false
set_option linter.unusedSimpArgs false
set_option linter.unusedSectionVars false
section
set_option linter.unusedVariables false
namespace Go.Proofs.YtnkoilkmnpmlmaaDoor
open Go.RowKit Go.V
open Go.S hiding Str
set_option maxHeartbeats 4000000 in
set_option maxRecDepth 100000 in
theorem object_reader_object_ct (r_0_b : Nat) (r_0 : ObjectReader) (r_0_dec_b : Nat) (r_0_dec : CodecDec) {r : ObjectObjectP × CodecDecP × ObjectReader} (hS : Sh.object_reader_object r_0 r_0_dec.pl = some r) :
    Ct Tryd.prog 84 [ptr r_0_b 0] (r_0_dec.b.ok.and r_0_dec.err.ok) (Ow.star (Blk r_0_dec_b [r_0_dec.b.val, i64 r_0_dec.at_, r_0_dec.err.val] 187) (Blk r_0_b [ptr r_0_dec_b 0, .bool r_0.bad] 145)) (X := ObjectObject × CodecDec × ObjectReader) (fun x => .agg (Dat.enc x.1).toArray) (fun x => r = (x.1.pl, x.2.1.pl, x.2.2)) (fun x => (x.1.m.and (x.2.1.b.ok.and x.2.1.err.ok))) (fun x => Ow.star (Blk r_0_dec_b [x.2.1.b.val, i64 x.2.1.at_, x.2.1.err.val] 187) (Blk r_0_b [ptr r_0_dec_b 0, .bool x.2.2.bad] 145)) := by
  refine Ct.of Tryd.func84 rfl (by kernel_rfl) Tryd.ntmps84 (by simp) fun c => ?_
  unfold Sh.object_reader_object at hS
  refine VC.seq ?_
  refine VC.region ?_
  refine VL.alloc (cs := [i64 0, .slice none 0 0, .slice none 0 0, i64 0, .slice none 0 0, i64 0, str []]) (by kernel_rfl) (by decide) fun b2_1 => ?_
  refine VL.to (fun _ _ h => h) ?_
  refine VC.seq ?_
  refine VC.region ?_
  refine VL.q (q_move rfl) (by decide) ?_
  refine VL.q (q_nilCheck rfl) (by decide) ?_
  refine VL.q (q_field gfa145_0 rfl) (by decide) ?_
  refine VL.q (q_fe gone142 rfl rfl) (by decide) ?_
  obtain ⟨y8_2, ey8_2, hS⟩ := bd_s hS
  refine VL.callO (codec_Dec_Int_ct r_0_dec_b r_0_dec ey8_2) rfl (by decide) ?_
  rintro ⟨q8_2_0, q8_2_1⟩ rfl
  try dsimp only
  refine VL.q (q_build (vs := [(0, i64 q8_2_0)]) (cs := #[i64 q8_2_0, .slice none 0 0, .slice none 0 0, i64 0, .slice none 0 0, i64 0, str []]) rfl (by kernel_rfl)) (by decide) ?_
  refine VL.alloc (cs := [i64 0, .slice none 0 0, .slice none 0 0, i64 0, .slice none 0 0, i64 0, str []]) (by kernel_rfl) (by decide) fun b3_3 => ?_
  refine VL.store (vc := [i64 q8_2_0, .slice none 0 0, .slice none 0 0, i64 0, .slice none 0 0, i64 0, str []]) (cs' := [i64 q8_2_0, .slice none 0 0, .slice none 0 0, i64 0, .slice none 0 0, i64 0, str []]) rfl rfl rfl gsz26 rfl rfl (Nat.le_of_ble_eq_true rfl) rfl ?_
  refine VL.to (fun _ _ h => h) ?_
  refine VC.seq ?_
  refine VC.seq ?_
  refine VC.region ?_
  refine VL.q (q_field gfa26_0 rfl) (by decide) ?_
  refine VL.q (q_fe gone3 rfl rfl) (by decide) ?_
  refine VL.to (fun _ _ h => h) ?_
  refine VC.keep [0, 2, 3, 11] rfl ?_
  refine VC.block ?_
  refine VC.seq ?_
  refine VC.region ?_
  refine VL.q (q_eql rfl rfl) (by decide) ?_
  refine VL.q (q_assign rfl) (by decide) ?_
  refine VL.to (fun _ _ h => h) ?_
  refine VC.cond_dec rfl (fun h12 => ?_) (fun h12 => ?_)
  ·
    replace hS := it_t h12 hS
    refine VC.region ?_
    refine VL.q (q_move rfl) (by decide) ?_
    refine VL.q (q_nilCheck rfl) (by decide) ?_
    refine VL.q (q_field gfa145_0 rfl) (by decide) ?_
    refine VL.q (q_fe gone142 rfl rfl) (by decide) ?_
    obtain ⟨y18_4, ey18_4, hS⟩ := bd_s hS
    refine VL.callO (codec_Dec_Text_ct r_0_dec_b q8_2_1 ey18_4) rfl (by decide) ?_
    rintro ⟨q18_4_0, q18_4_1⟩ rfl
    try dsimp only
    obtain ⟨b19, hS⟩ := gd_s hS
    refine VL.s2b Tryd.underlying9 Tryd.underlying22 Tryd.underlying5 rfl b19 (by decide) fun s19_5 hs19_5 => ?_
    replace hS := lt_to hs19_5 hS
    refine VL.q (q_field gfa26_1 rfl) (by decide) ?_
    refine VL.store (vc := [s19_5.val]) (cs' := [i64 q8_2_0, s19_5.val, .slice none 0 0, i64 0, .slice none 0 0, i64 0, str []]) rfl rfl rfl gsz22 rfl rfl (Nat.le_of_ble_eq_true rfl) rfl ?_
    refine VL.to (fun _ _ h => h) ?_
    refine VC.keep [2, 3] rfl ?_
    refine VC.seq ?_
    refine VC.region ?_
    refine VL.q (q_fes gagg26 rfl rfl) (by decide) ?_
    refine VL.store (vc := [i64 q8_2_0, s19_5.val, .slice none 0 0, i64 0, .slice none 0 0, i64 0, str []]) (cs' := [i64 q8_2_0, s19_5.val, .slice none 0 0, i64 0, .slice none 0 0, i64 0, str []]) rfl rfl rfl gsz26 rfl rfl (Nat.le_of_ble_eq_true rfl) rfl ?_
    refine VL.to (fun _ _ h => h) ?_
    cases hS
    exact VC.ret (finG (vs := [.agg #[i64 q8_2_0, s19_5.val, .slice none 0 0, i64 0, .slice none 0 0, i64 0, str []]]) (.inr rfl) rfl (RVs.cell gagg26 rfl rfl Rd.blk (RVs.nil)) (⟨q8_2_0, s19_5, ⟨none, 0, []⟩, 0, ⟨none, 0, []⟩, 0, []⟩, ⟨q18_4_1.b, q18_4_1.at_, q18_4_1.err⟩, ⟨r_0.bad⟩) rfl rfl (by (try dsimp only); exact InM.out) (by (try dsimp only); exact EntO.out))
  ·
    replace hS := it_f h12 hS
    refine VC.seq ?_
    refine VC.region ?_
    refine VL.q (q_eql rfl rfl) (by decide) ?_
    refine VL.q (q_assign rfl) (by decide) ?_
    refine VL.to (fun _ _ h => h) ?_
    refine VC.cond_dec rfl (fun h21 => ?_) (fun h21 => ?_)
    ·
      replace hS := it_t h21 hS
      refine VC.region ?_
      refine VL.q (q_move rfl) (by decide) ?_
      obtain ⟨y24_7, ey24_7, hS⟩ := bd_s hS
      refine VL.callO (object_reader_items_ct r_0_b r_0 r_0_dec_b q8_2_1 ey24_7) rfl (by decide) ?_
      rintro ⟨q24_7_0, q24_7_1, q24_7_2⟩ rfl
      try dsimp only
      refine VL.q (q_field gfa26_2 rfl) (by decide) ?_
      refine VL.store (vc := [q24_7_0.val]) (cs' := [i64 q8_2_0, .slice none 0 0, q24_7_0.val, i64 0, .slice none 0 0, i64 0, str []]) rfl rfl rfl gsz23 rfl rfl (Nat.le_of_ble_eq_true rfl) rfl ?_
      refine VL.to (fun _ _ h => h) ?_
      refine VC.keep [2, 3] rfl ?_
      refine VC.seq ?_
      refine VC.region ?_
      refine VL.q (q_fes gagg26 rfl rfl) (by decide) ?_
      refine VL.store (vc := [i64 q8_2_0, .slice none 0 0, q24_7_0.val, i64 0, .slice none 0 0, i64 0, str []]) (cs' := [i64 q8_2_0, .slice none 0 0, q24_7_0.val, i64 0, .slice none 0 0, i64 0, str []]) rfl rfl rfl gsz26 rfl rfl (Nat.le_of_ble_eq_true rfl) rfl ?_
      refine VL.to (fun _ _ h => h) ?_
      cases hS
      exact VC.ret (finG (vs := [.agg #[i64 q8_2_0, .slice none 0 0, q24_7_0.val, i64 0, .slice none 0 0, i64 0, str []]]) (.inr rfl) rfl (RVs.cell gagg26 rfl rfl Rd.blk (RVs.nil)) (⟨q8_2_0, ⟨none, 0, []⟩, q24_7_0, 0, ⟨none, 0, []⟩, 0, []⟩, ⟨q24_7_1.b, q24_7_1.at_, q24_7_1.err⟩, ⟨q24_7_2.bad⟩) rfl rfl (by (try dsimp only); exact InM.out) (by (try dsimp only); exact EntO.out))
    ·
      replace hS := it_f h21 hS
      refine VC.seq ?_
      refine VC.region ?_
      refine VL.q (q_eql rfl rfl) (by decide) ?_
      refine VL.q (q_assign rfl) (by decide) ?_
      refine VL.to (fun _ _ h => h) ?_
      refine VC.cond_dec rfl (fun h26 => ?_) (fun h26 => ?_)
      ·
        replace hS := it_t h26 hS
        refine VC.seq ?_
        refine VC.region ?_
        refine VL.q (q_move rfl) (by decide) ?_
        refine VL.q (q_nilCheck rfl) (by decide) ?_
        refine VL.q (q_field gfa145_0 rfl) (by decide) ?_
        refine VL.q (q_fe gone142 rfl rfl) (by decide) ?_
        obtain ⟨y32_8, ey32_8, hS⟩ := bd_s hS
        refine VL.callO (codec_Dec_Int_ct r_0_dec_b q8_2_1 ey32_8) rfl (by decide) ?_
        rintro ⟨q32_8_0, q32_8_1⟩ rfl
        try dsimp only
        refine VL.q (q_field gfa26_3 rfl) (by decide) ?_
        refine VL.store (vc := [i64 q32_8_0]) (cs' := [i64 q8_2_0, .slice none 0 0, .slice none 0 0, i64 q32_8_0, .slice none 0 0, i64 0, str []]) rfl rfl rfl gsz3 rfl rfl (Nat.le_of_ble_eq_true rfl) rfl ?_
        refine VL.to (fun _ _ h => h) ?_
        refine VC.keep [0, 2, 3] rfl ?_
        refine VC.seq ?_
        refine VC.region ?_
        refine VL.q (q_move rfl) (by decide) ?_
        obtain ⟨y35_9, ey35_9, hS⟩ := bd_s hS
        refine VL.callO (object_reader_numbers_ct r_0_b r_0 r_0_dec_b q32_8_1 ey35_9) rfl (by decide) ?_
        rintro ⟨q35_9_0, q35_9_1, q35_9_2⟩ rfl
        try dsimp only
        refine VL.q (q_field gfa26_4 rfl) (by decide) ?_
        refine VL.store (vc := [q35_9_0.val]) (cs' := [i64 q8_2_0, .slice none 0 0, .slice none 0 0, i64 q32_8_0, q35_9_0.val, i64 0, str []]) rfl rfl rfl gsz24 rfl rfl (Nat.le_of_ble_eq_true rfl) rfl ?_
        refine VL.to (fun _ _ h => h) ?_
        refine VC.draw [(0, true), (1, true), (2, true), (3, true), (5, true), (6, true), (7, true), (8, true), (4, false), (10, true), (9, false), (11, false), (12, true), (13, false)] mixed (by kernel_rfl) (by kernel_rfl) (by kernel_rfl) ?_
        refine VD.q rfl (q_move rfl) (by decide) ?_
        refine VD.q rfl (q_nilCheck rfl) (by decide) ?_
        refine VD.q rfl (q_field gfa145_0 rfl) (by decide) ?_
        refine VD.q rfl (q_fe gone142 rfl rfl) (by decide) ?_
        refine VD.q rfl (q_move rfl) (by decide) ?_
        refine VD.q rfl (q_nilCheck rfl) (by decide) ?_
        refine VD.q rfl (q_field gfa145_0 rfl) (by decide) ?_
        refine VD.q rfl (q_fe gone142 rfl rfl) (by decide) ?_
        refine VD.one rfl ?_
        obtain ⟨y41_10, ey41_10, hS⟩ := bd_s hS
        refine VL.callO (codec_Dec_Int_ct r_0_dec_b q35_9_1 ey41_10) rfl (by decide) ?_
        rintro ⟨q41_10_0, q41_10_1⟩ rfl
        try dsimp only
        refine VL.back (D' := [(8, ptr r_0_dec_b 0), (7, ptr r_0_b 0), (6, ptr r_0_b 0)]) (by kernel_rfl) (Pend.cons rfl (q_fe gone142 rfl rfl) (Pend.cons rfl (q_field gfa145_0 rfl) (Pend.cons rfl (q_nilCheck rfl) (Pend.nil)))) ?_
        refine VD.q rfl (q_field gfa26_5 rfl) (by decide) ?_
        refine VD.one rfl ?_
        obtain ⟨y46_11, ey46_11, hS⟩ := bd_s hS
        refine VL.callO (codec_Dec_Text_ct r_0_dec_b q41_10_1 ey46_11) rfl (by decide) ?_
        rintro ⟨q46_11_0, q46_11_1⟩ rfl
        try dsimp only
        refine VL.back (D' := [(10, ptr b3_3 5)]) (by kernel_rfl) (Pend.cons rfl (q_field gfa26_5 rfl) (Pend.nil)) ?_
        refine VD.one rfl ?_
        refine VL.store (vc := [i64 q41_10_0]) (cs' := [i64 q8_2_0, .slice none 0 0, .slice none 0 0, i64 q32_8_0, q35_9_0.val, i64 q41_10_0, str []]) rfl rfl rfl gsz3 rfl rfl (Nat.le_of_ble_eq_true rfl) rfl ?_
        refine VL.back (D' := []) (by kernel_rfl) (Pend.nil) ?_
        refine VD.q rfl (q_field gfa26_6 rfl) (by decide) ?_
        refine VD.one rfl ?_
        refine VL.store (vc := [str q46_11_0]) (cs' := [i64 q8_2_0, .slice none 0 0, .slice none 0 0, i64 q32_8_0, q35_9_0.val, i64 q41_10_0, str q46_11_0]) rfl rfl rfl gsz9 rfl rfl (Nat.le_of_ble_eq_true rfl) rfl ?_
        refine VL.back (D' := []) (by kernel_rfl) (Pend.nil) ?_
        refine VD.to (fun _ _ h => h) ?_
        refine VC.keep [2, 3] rfl ?_
        refine VC.seq ?_
        refine VC.region ?_
        refine VL.q (q_fes gagg26 rfl rfl) (by decide) ?_
        refine VL.store (vc := [i64 q8_2_0, .slice none 0 0, .slice none 0 0, i64 q32_8_0, q35_9_0.val, i64 q41_10_0, str q46_11_0]) (cs' := [i64 q8_2_0, .slice none 0 0, .slice none 0 0, i64 q32_8_0, q35_9_0.val, i64 q41_10_0, str q46_11_0]) rfl rfl rfl gsz26 rfl rfl (Nat.le_of_ble_eq_true rfl) rfl ?_
        refine VL.to (fun _ _ h => h) ?_
        cases hS
        exact VC.ret (finG (vs := [.agg #[i64 q8_2_0, .slice none 0 0, .slice none 0 0, i64 q32_8_0, q35_9_0.val, i64 q41_10_0, str q46_11_0]]) (.inr rfl) rfl (RVs.cell gagg26 rfl rfl Rd.blk (RVs.nil)) (⟨q8_2_0, ⟨none, 0, []⟩, ⟨none, 0, []⟩, q32_8_0, q35_9_0, q41_10_0, q46_11_0⟩, ⟨q46_11_1.b, q46_11_1.at_, q46_11_1.err⟩, ⟨q35_9_2.bad⟩) rfl rfl (by (try dsimp only); exact InM.out) (by (try dsimp only); exact EntO.out))
      ·
        replace hS := it_f h26 hS
        refine VC.skip_to (fun _ _ h => h) ?_
        refine VC.seq ?_
        refine VC.region ?_
        refine VL.q (q_fes gagg26 rfl rfl) (by decide) ?_
        refine VL.store (vc := [i64 q8_2_0, .slice none 0 0, .slice none 0 0, i64 0, .slice none 0 0, i64 0, str []]) (cs' := [i64 q8_2_0, .slice none 0 0, .slice none 0 0, i64 0, .slice none 0 0, i64 0, str []]) rfl rfl rfl gsz26 rfl rfl (Nat.le_of_ble_eq_true rfl) rfl ?_
        refine VL.to (fun _ _ h => h) ?_
        refine VC.keep [2] rfl ?_
        cases hS
        exact VC.ret (finG (vs := [.agg #[i64 q8_2_0, .slice none 0 0, .slice none 0 0, i64 0, .slice none 0 0, i64 0, str []]]) (.inr rfl) rfl (RVs.cell gagg26 rfl rfl Rd.blk (RVs.nil)) (⟨q8_2_0, ⟨none, 0, []⟩, ⟨none, 0, []⟩, 0, ⟨none, 0, []⟩, 0, []⟩, ⟨q8_2_1.b, q8_2_1.at_, q8_2_1.err⟩, ⟨r_0.bad⟩) rfl rfl (by (try dsimp only); exact InM.out) (by (try dsimp only); exact EntO.out))

set_option maxHeartbeats 4000000 in
set_option maxRecDepth 100000 in
theorem codec_Dec_Err_ct (d_0_b : Nat) (d_0 : CodecDec) {r : Err} (hS : Sh.codec_Dec_Err d_0.pl = some r) :
    Ct Tryd.prog 86 [ptr d_0_b 0] (d_0.b.ok.and d_0.err.ok) (Blk d_0_b [d_0.b.val, i64 d_0.at_, d_0.err.val] 187) (X := Er) (fun x => x.val) (fun x => r = x.pl) (fun x => x.ok) (fun x => Blk d_0_b [d_0.b.val, i64 d_0.at_, d_0.err.val] 187) := by
  refine Ct.of Tryd.func86 rfl (by kernel_rfl) Tryd.ntmps86 (by simp) fun c => ?_
  unfold Sh.codec_Dec_Err at hS
  refine VC.seq ?_
  refine VC.region ?_
  refine VL.q (q_assign rfl) (by decide) ?_
  refine VL.to (fun _ _ h => h) ?_
  refine VC.seq ?_
  refine VC.region ?_
  refine VL.q (q_move rfl) (by decide) ?_
  refine VL.q (q_nilCheck rfl) (by decide) ?_
  refine VL.q (q_field gfa187_2 rfl) (by decide) ?_
  refine VL.q (q_fe gone44 rfl rfl) (by decide) ?_
  refine VL.q (q_assign rfl) (by decide) ?_
  refine VL.to (fun _ _ h => h) ?_
  cases hS
  exact VC.ret (fin1 (.inr rfl) rfl rfl d_0.err rfl rfl (by (try dsimp only); exact InM.out) (by (try dsimp only); exact EntO.out))

set_option maxHeartbeats 4000000 in
set_option maxRecDepth 100000 in
theorem codec_Dec_Left_ct (d_0_b : Nat) (d_0 : CodecDec) {r : Int} (hS : Sh.codec_Dec_Left d_0.pl = some r) :
    Ct Tryd.prog 87 [ptr d_0_b 0] (d_0.b.ok.and (d_0.err.ok.and (Cells d_0_b 0 [d_0.b.val, i64 d_0.at_, d_0.err.val]))) (Ow.emp) (X := Unit) (fun _ => i64 r) (fun _ => True) (fun _ => Mo.tt) (fun _ => Ow.emp) := by
  refine Ct.of Tryd.func87 rfl (by kernel_rfl) Tryd.ntmps87 (by simp) fun c => ?_
  unfold Sh.codec_Dec_Left at hS
  refine VC.seq ?_
  refine VC.region ?_
  refine VL.q (q_assign rfl) (by decide) ?_
  refine VL.to (fun _ _ h => h) ?_
  refine VC.seq ?_
  refine VC.seq ?_
  refine VC.region ?_
  refine VL.q (q_move rfl) (by decide) ?_
  refine VL.q (q_nilCheck rfl) (by decide) ?_
  refine VL.q (q_field gfa187_2 rfl) (by decide) ?_
  refine VL.q (q_fm gone44 rfl rfl) (by decide) ?_
  refine VL.q (q_erne Tryd.underlying44 rfl) (by decide) ?_
  refine VL.to (fun _ _ h => h) ?_
  refine VC.cond_ndec rfl (fun h7 => ?_) (fun h7 => ?_)
  ·
    replace hS := it_f h7 hS
    refine VC.seq ?_
    refine VC.region ?_
    refine VL.q (q_assign rfl) (by decide) ?_
    refine VL.to (fun _ _ h => h) ?_
    cases hS
    exact VC.ret (fin1 (.inr rfl) rfl rfl () rfl trivial (fun _ _ => trivial) (fun _ _ => trivial))
  ·
    replace hS := it_t h7 hS
    refine VC.skip_to (fun _ _ h => h) ?_
    refine VC.seq ?_
    refine VC.draw ((List.range 11).map fun k => (k, true)) mixed (by kernel_rfl) (by kernel_rfl) (by kernel_rfl) ?_
    refine VD.q rfl (q_move rfl) (by decide) ?_
    refine VD.q rfl (q_nilCheck rfl) (by decide) ?_
    refine VD.q rfl (q_field gfa187_0 rfl) (by decide) ?_
    refine VD.q rfl (q_fm gone22 rfl rfl) (by decide) ?_
    refine VD.q rfl (q_ln (s := d_0.b) Tryd.underlying22 rfl) (by decide) ?_
    refine VD.q rfl (q_move rfl) (by decide) ?_
    refine VD.q rfl (q_nilCheck rfl) (by decide) ?_
    refine VD.q rfl (q_field gfa187_1 rfl) (by decide) ?_
    refine VD.q rfl (q_fm gone3 rfl rfl) (by decide) ?_
    obtain ⟨b17, hS⟩ := gd_s hS
    refine VD.q rfl (q_sub rfl rfl b17) (by decide) ?_
    refine VD.q rfl (q_assign rfl) (by decide) ?_
    refine VD.to (fun _ _ h => h) ?_
    refine VC.keep [2] rfl ?_
    cases hS
    exact VC.ret (fin1 (.inr rfl) rfl rfl () rfl trivial (fun _ _ => trivial) (fun _ _ => trivial))

set_option maxHeartbeats 4000000 in
set_option maxRecDepth 100000 in
theorem object_Decode_ct (a_0 : Sv UInt8) {r : ObjectObjectP × Err} (hS : Sh.object_Decode a_0.l = some r) :
    Ct Tryd.prog 41 [a_0.val] a_0.ok (Ow.emp) (X := ObjectObject × Er) (fun x => .tuple #[.agg (Dat.enc x.1).toArray, x.2.val]) (fun x => r = (x.1.pl, x.2.pl)) (fun x => (x.1.m.and x.2.ok)) (fun x => Ow.emp) := by
  refine Ct.of Tryd.func41 rfl (by kernel_rfl) Tryd.ntmps41 (by simp) fun c => ?_
  unfold Sh.object_Decode at hS
  refine VC.seq ?_
  refine VC.region ?_
  refine VL.alloc (cs := [i64 0, .slice none 0 0, .slice none 0 0, i64 0, .slice none 0 0, i64 0, str []]) (by kernel_rfl) (by decide) fun b2_1 => ?_
  refine VL.q (q_assign rfl) (by decide) ?_
  refine VL.to (fun _ _ h => h) ?_
  refine VC.seq ?_
  refine VC.region ?_
  refine VL.q (q_move rfl) (by decide) ?_
  obtain ⟨y12_2, ey12_2, hS⟩ := bd_s hS
  refine VL.callF (seal_Open_ct a_0 ey12_2) rfl (by decide) ?_
  rintro ⟨q12_2_0, q12_2_1⟩ rfl
  try dsimp only
  refine VL.q (q_move rfl) (by decide) ?_
  refine VL.q (q_extract rfl rfl) (by decide) ?_
  refine VL.q (q_extract rfl rfl) (by decide) ?_
  refine VL.q (q_assign rfl) (by decide) ?_
  refine VL.q (q_assign rfl) (by decide) ?_
  refine VL.to (fun _ _ h => h) ?_
  refine VC.seq ?_
  refine VC.seq ?_
  refine VC.region ?_
  refine VL.q (q_move rfl) (by decide) ?_
  refine VL.q (q_erne Tryd.underlying44 rfl) (by decide) ?_
  refine VL.to (fun _ _ h => h) ?_
  refine VC.keep [0, 2, 4, 5, 16] rfl ?_
  refine VC.cond_ndec rfl (fun h16 => ?_) (fun h16 => ?_)
  ·
    replace hS := it_f h16 hS
    refine VC.seq ?_
    refine VC.region ?_
    refine VL.q (q_build (vs := []) (cs := #[i64 0, .slice none 0 0, .slice none 0 0, i64 0, .slice none 0 0, i64 0, str []]) rfl (by kernel_rfl)) (by decide) ?_
    refine VL.q (q_move rfl) (by decide) ?_
    refine VL.store (vc := [i64 0, .slice none 0 0, .slice none 0 0, i64 0, .slice none 0 0, i64 0, str []]) (cs' := [i64 0, .slice none 0 0, .slice none 0 0, i64 0, .slice none 0 0, i64 0, str []]) rfl rfl rfl gsz26 rfl rfl (Nat.le_of_ble_eq_true rfl) rfl ?_
    refine VL.q (q_assign rfl) (by decide) ?_
    refine VL.to (fun _ _ h => h) ?_
    cases hS
    exact VC.ret (finG (vs := [.agg #[i64 0, .slice none 0 0, .slice none 0 0, i64 0, .slice none 0 0, i64 0, str []], q12_2_1.val]) (.inr rfl) rfl (RVs.cell gagg26 rfl rfl Rd.blk (RVs.tmp rfl (RVs.nil))) (⟨0, ⟨none, 0, []⟩, ⟨none, 0, []⟩, 0, ⟨none, 0, []⟩, 0, []⟩, q12_2_1) rfl rfl (by (try dsimp only); exact InM.out) (fun _ _ => trivial))
  ·
    replace hS := it_t h16 hS
    refine VC.skip_to (fun _ _ h => h) ?_
    refine VC.seq ?_
    refine VC.region ?_
    refine VL.q (q_move rfl) (by decide) ?_
    obtain ⟨y20_3, ey20_3, hS⟩ := bd_s hS
    refine VL.callO (codec_Of_ct q12_2_0 ey20_3) rfl (by decide) ?_
    rintro ⟨q20_3_0, q20_3_1⟩ rfl
    try dsimp only
    refine VL.q (q_build (vs := [(0, ptr q20_3_0 0)]) (cs := #[ptr q20_3_0 0, .bool false]) rfl (by kernel_rfl)) (by decide) ?_
    refine VL.box (cs := [ptr q20_3_0 0, .bool false]) rfl rfl (by decide) fun b22_4 => ?_
    refine VL.q (q_assign rfl) (by decide) ?_
    refine VL.to (fun _ _ h => h) ?_
    refine VC.seq ?_
    refine VC.region ?_
    refine VL.q (q_move rfl) (by decide) ?_
    obtain ⟨y24_5, ey24_5, hS⟩ := bd_s hS
    refine VL.callO (object_reader_object_ct b22_4 (⟨false⟩ : ObjectReader) q20_3_0 q20_3_1 ey24_5) rfl (by decide) ?_
    rintro ⟨q24_5_0, q24_5_1, q24_5_2⟩ rfl
    try dsimp only
    refine VL.alloc (cs := [i64 0, .slice none 0 0, .slice none 0 0, i64 0, .slice none 0 0, i64 0, str []]) (by kernel_rfl) (by decide) fun b7_6 => ?_
    refine VL.store (vc := [i64 q24_5_0.kind, q24_5_0.data.val, q24_5_0.items.val, i64 q24_5_0.tree, q24_5_0.parents.val, i64 q24_5_0.time, str q24_5_0.text]) (cs' := [i64 q24_5_0.kind, q24_5_0.data.val, q24_5_0.items.val, i64 q24_5_0.tree, q24_5_0.parents.val, i64 q24_5_0.time, str q24_5_0.text]) rfl rfl rfl gsz26 rfl rfl (Nat.le_of_ble_eq_true rfl) rfl ?_
    refine VL.to (fun _ _ h => h) ?_
    refine VC.keep [0, 2, 6, 7] rfl ?_
    refine VC.seq ?_
    refine VC.seq ?_
    refine VC.region ?_
    refine VL.q (q_move rfl) (by decide) ?_
    refine VL.q (q_nilCheck rfl) (by decide) ?_
    refine VL.q (q_field gfa145_1 rfl) (by decide) ?_
    refine VL.q (q_fe gone4 rfl rfl) (by decide) ?_
    refine VL.to (fun _ _ h => h) ?_
    refine VC.cond rfl (fun h28 => ?_) (fun h28 => ?_)
    ·
      replace hS := it_t h28 hS
      refine VC.seq ?_
      refine VC.region ?_
      refine VL.q (q_build (vs := []) (cs := #[i64 0, .slice none 0 0, .slice none 0 0, i64 0, .slice none 0 0, i64 0, str []]) rfl (by kernel_rfl)) (by decide) ?_
      refine VL.q (q_mkif Tryd.underlying97 (fun _ h => by cases h) rfl) (by decide) ?_
      obtain ⟨y31_7, ey31_7, hS⟩ := bd_s hS
      refine VL.callF (object_fault_ct 0 (Er.no 2) ey31_7) rfl (by decide) ?_
      rintro q31_7_0 rfl
      try dsimp only
      refine VL.store (vc := [i64 0, .slice none 0 0, .slice none 0 0, i64 0, .slice none 0 0, i64 0, str []]) (cs' := [i64 0, .slice none 0 0, .slice none 0 0, i64 0, .slice none 0 0, i64 0, str []]) rfl rfl rfl gsz26 rfl rfl (Nat.le_of_ble_eq_true rfl) rfl ?_
      refine VL.q (q_assign rfl) (by decide) ?_
      refine VL.to (fun _ _ h => h) ?_
      refine VC.keep [2, 3] rfl ?_
      cases hS
      exact VC.ret (finG (vs := [.agg #[i64 0, .slice none 0 0, .slice none 0 0, i64 0, .slice none 0 0, i64 0, str []], q31_7_0.val]) (.inr rfl) rfl (RVs.cell gagg26 rfl rfl Rd.blk (RVs.tmp rfl (RVs.nil))) (⟨0, ⟨none, 0, []⟩, ⟨none, 0, []⟩, 0, ⟨none, 0, []⟩, 0, []⟩, q31_7_0) rfl rfl (by (try dsimp only); exact InM.out) (fun _ _ => trivial))
    ·
      replace hS := it_b h28 hS
      refine VC.skip_to (fun _ _ h => h) ?_
      refine VC.seq ?_
      refine VC.seq ?_
      refine VC.region ?_
      refine VL.q (q_move rfl) (by decide) ?_
      refine VL.q (q_nilCheck rfl) (by decide) ?_
      refine VL.q (q_field gfa145_0 rfl) (by decide) ?_
      refine VL.q (q_fe gone142 rfl rfl) (by decide) ?_
      obtain ⟨y36_8, ey36_8, hS⟩ := bd_s hS
      refine VL.callO (codec_Dec_Err_ct q20_3_0 q24_5_1 ey36_8) rfl (by decide) ?_
      rintro q36_8_0 rfl
      try dsimp only
      refine VL.q (q_assign rfl) (by decide) ?_
      refine VL.to (fun _ _ h => h) ?_
      refine VC.keep [0, 2, 6, 7, 8] rfl ?_
      refine VC.seq ?_
      refine VC.region ?_
      refine VL.q (q_move rfl) (by decide) ?_
      refine VL.q (q_erne Tryd.underlying44 rfl) (by decide) ?_
      refine VL.to (fun _ _ h => h) ?_
      refine VC.cond_ndec rfl (fun h38 => ?_) (fun h38 => ?_)
      ·
        replace hS := it_f h38 hS
        refine VC.seq ?_
        refine VC.region ?_
        refine VL.q (q_build (vs := []) (cs := #[i64 0, .slice none 0 0, .slice none 0 0, i64 0, .slice none 0 0, i64 0, str []]) rfl (by kernel_rfl)) (by decide) ?_
        refine VL.q (q_move rfl) (by decide) ?_
        refine VL.store (vc := [i64 0, .slice none 0 0, .slice none 0 0, i64 0, .slice none 0 0, i64 0, str []]) (cs' := [i64 0, .slice none 0 0, .slice none 0 0, i64 0, .slice none 0 0, i64 0, str []]) rfl rfl rfl gsz26 rfl rfl (Nat.le_of_ble_eq_true rfl) rfl ?_
        refine VL.q (q_assign rfl) (by decide) ?_
        refine VL.to (fun _ _ h => h) ?_
        cases hS
        exact VC.ret (finG (vs := [.agg #[i64 0, .slice none 0 0, .slice none 0 0, i64 0, .slice none 0 0, i64 0, str []], q36_8_0.val]) (.inr rfl) rfl (RVs.cell gagg26 rfl rfl Rd.blk (RVs.tmp rfl (RVs.nil))) (⟨0, ⟨none, 0, []⟩, ⟨none, 0, []⟩, 0, ⟨none, 0, []⟩, 0, []⟩, q36_8_0) rfl rfl (by (try dsimp only); exact InM.out) (fun _ _ => trivial))
      ·
        replace hS := it_t h38 hS
        refine VC.skip_to (fun _ _ h => h) ?_
        refine VC.seq ?_
        refine VC.seq ?_
        refine VC.region ?_
        refine VL.q (q_move rfl) (by decide) ?_
        refine VL.q (q_nilCheck rfl) (by decide) ?_
        refine VL.q (q_field gfa145_0 rfl) (by decide) ?_
        refine VL.q (q_fe gone142 rfl rfl) (by decide) ?_
        obtain ⟨y45_9, ey45_9, hS⟩ := bd_s hS
        refine VL.q (q_callR (codec_Dec_Left_ct q20_3_0 q24_5_1 ey45_9) rfl (fun _ _ => rfl)) (by decide) ?_
        refine VL.q (q_gtr rfl rfl) (by decide) ?_
        refine VL.to (fun _ _ h => h) ?_
        refine VC.keep [0, 2, 7, 46] rfl ?_
        refine VC.cond_dec rfl (fun h46 => ?_) (fun h46 => ?_)
        ·
          replace hS := it_t h46 hS
          refine VC.seq ?_
          refine VC.region ?_
          refine VL.q (q_build (vs := []) (cs := #[i64 0, .slice none 0 0, .slice none 0 0, i64 0, .slice none 0 0, i64 0, str []]) rfl (by kernel_rfl)) (by decide) ?_
          refine VL.q (q_mkif Tryd.underlying97 (fun _ h => by cases h) rfl) (by decide) ?_
          obtain ⟨y49_10, ey49_10, hS⟩ := bd_s hS
          refine VL.callF (object_fault_ct 0 (Er.no 2) ey49_10) rfl (by decide) ?_
          rintro q49_10_0 rfl
          try dsimp only
          refine VL.store (vc := [i64 0, .slice none 0 0, .slice none 0 0, i64 0, .slice none 0 0, i64 0, str []]) (cs' := [i64 0, .slice none 0 0, .slice none 0 0, i64 0, .slice none 0 0, i64 0, str []]) rfl rfl rfl gsz26 rfl rfl (Nat.le_of_ble_eq_true rfl) rfl ?_
          refine VL.q (q_assign rfl) (by decide) ?_
          refine VL.to (fun _ _ h => h) ?_
          cases hS
          exact VC.ret (finG (vs := [.agg #[i64 0, .slice none 0 0, .slice none 0 0, i64 0, .slice none 0 0, i64 0, str []], q49_10_0.val]) (.inr rfl) rfl (RVs.cell gagg26 rfl rfl Rd.blk (RVs.tmp rfl (RVs.nil))) (⟨0, ⟨none, 0, []⟩, ⟨none, 0, []⟩, 0, ⟨none, 0, []⟩, 0, []⟩, q49_10_0) rfl rfl (by (try dsimp only); exact InM.out) (fun _ _ => trivial))
        ·
          replace hS := it_f h46 hS
          refine VC.skip_to (fun _ _ h => h) ?_
          refine VC.seq ?_
          refine VC.region ?_
          refine VL.q (q_fes gagg26 rfl rfl) (by decide) ?_
          obtain ⟨y52_11, ey52_11, hS⟩ := bd_s hS
          refine VL.callO (object_Encode_ct q24_5_0 ey52_11) rfl (by decide) ?_
          rintro ⟨q52_11_0, q52_11_1⟩ rfl
          try dsimp only
          refine VL.q (q_move rfl) (by decide) ?_
          refine VL.q (q_extract rfl rfl) (by decide) ?_
          refine VL.q (q_extract rfl rfl) (by decide) ?_
          refine VL.q (q_assign rfl) (by decide) ?_
          refine VL.q (q_assign rfl) (by decide) ?_
          refine VL.to (fun _ _ h => h) ?_
          refine VC.seq ?_
          refine VC.seq ?_
          refine VC.region ?_
          refine VL.q (q_move rfl) (by decide) ?_
          refine VL.q (q_erne Tryd.underlying44 rfl) (by decide) ?_
          refine VL.to (fun _ _ h => h) ?_
          refine VC.keep [0, 2, 7, 9, 5, 56] rfl ?_
          refine VC.cond_ndec rfl (fun h56 => ?_) (fun h56 => ?_)
          ·
            replace hS := it_f h56 hS
            refine VC.seq ?_
            refine VC.region ?_
            refine VL.q (q_build (vs := []) (cs := #[i64 0, .slice none 0 0, .slice none 0 0, i64 0, .slice none 0 0, i64 0, str []]) rfl (by kernel_rfl)) (by decide) ?_
            refine VL.q (q_move rfl) (by decide) ?_
            refine VL.store (vc := [i64 0, .slice none 0 0, .slice none 0 0, i64 0, .slice none 0 0, i64 0, str []]) (cs' := [i64 0, .slice none 0 0, .slice none 0 0, i64 0, .slice none 0 0, i64 0, str []]) rfl rfl rfl gsz26 rfl rfl (Nat.le_of_ble_eq_true rfl) rfl ?_
            refine VL.q (q_assign rfl) (by decide) ?_
            refine VL.to (fun _ _ h => h) ?_
            cases hS
            exact VC.ret (finG (vs := [.agg #[i64 0, .slice none 0 0, .slice none 0 0, i64 0, .slice none 0 0, i64 0, str []], q52_11_1.val]) (.inr rfl) rfl (RVs.cell gagg26 rfl rfl Rd.blk (RVs.tmp rfl (RVs.nil))) (⟨0, ⟨none, 0, []⟩, ⟨none, 0, []⟩, 0, ⟨none, 0, []⟩, 0, []⟩, q52_11_1) rfl rfl (by (try dsimp only); exact InM.out) (fun _ _ => trivial))
          ·
            replace hS := it_t h56 hS
            refine VC.skip_to (fun _ _ h => h) ?_
            refine VC.seq ?_
            refine VC.seq ?_
            refine VC.region ?_
            refine VL.q (q_move rfl) (by decide) ?_
            refine VL.q (q_move rfl) (by decide) ?_
            obtain ⟨y61_12, ey61_12, hS⟩ := bd_s hS
            refine VL.q (q_callR (bytes_Equal_ct q52_11_0 a_0 ey61_12) rfl (fun _ _ => rfl)) (by decide) ?_
            refine VL.q (q_not rfl) (by decide) ?_
            refine VL.to (fun _ _ h => h) ?_
            refine VC.cond rfl (fun h62 => ?_) (fun h62 => ?_)
            ·
              replace hS := it_t h62 hS
              refine VC.seq ?_
              refine VC.region ?_
              refine VL.q (q_build (vs := []) (cs := #[i64 0, .slice none 0 0, .slice none 0 0, i64 0, .slice none 0 0, i64 0, str []]) rfl (by kernel_rfl)) (by decide) ?_
              refine VL.q (q_mkif Tryd.underlying97 (fun _ h => by cases h) rfl) (by decide) ?_
              obtain ⟨y65_13, ey65_13, hS⟩ := bd_s hS
              refine VL.callF (object_fault_ct 0 (Er.no 2) ey65_13) rfl (by decide) ?_
              rintro q65_13_0 rfl
              try dsimp only
              refine VL.store (vc := [i64 0, .slice none 0 0, .slice none 0 0, i64 0, .slice none 0 0, i64 0, str []]) (cs' := [i64 0, .slice none 0 0, .slice none 0 0, i64 0, .slice none 0 0, i64 0, str []]) rfl rfl rfl gsz26 rfl rfl (Nat.le_of_ble_eq_true rfl) rfl ?_
              refine VL.q (q_assign rfl) (by decide) ?_
              refine VL.to (fun _ _ h => h) ?_
              refine VC.keep [2, 3] rfl ?_
              cases hS
              exact VC.ret (finG (vs := [.agg #[i64 0, .slice none 0 0, .slice none 0 0, i64 0, .slice none 0 0, i64 0, str []], q65_13_0.val]) (.inr rfl) rfl (RVs.cell gagg26 rfl rfl Rd.blk (RVs.tmp rfl (RVs.nil))) (⟨0, ⟨none, 0, []⟩, ⟨none, 0, []⟩, 0, ⟨none, 0, []⟩, 0, []⟩, q65_13_0) rfl rfl (by (try dsimp only); exact InM.out) (fun _ _ => trivial))
            ·
              replace hS := it_b h62 hS
              refine VC.skip_to (fun _ _ h => h) ?_
              refine VC.seq ?_
              refine VC.region ?_
              refine VL.q (q_fes gagg26 rfl rfl) (by decide) ?_
              refine VL.store (vc := [i64 q24_5_0.kind, q24_5_0.data.val, q24_5_0.items.val, i64 q24_5_0.tree, q24_5_0.parents.val, i64 q24_5_0.time, str q24_5_0.text]) (cs' := [i64 q24_5_0.kind, q24_5_0.data.val, q24_5_0.items.val, i64 q24_5_0.tree, q24_5_0.parents.val, i64 q24_5_0.time, str q24_5_0.text]) rfl rfl rfl gsz26 rfl rfl (Nat.le_of_ble_eq_true rfl) rfl ?_
              refine VL.q (q_assign rfl) (by decide) ?_
              refine VL.to (fun _ _ h => h) ?_
              refine VC.keep [2, 3] rfl ?_
              cases hS
              exact VC.ret (finG (vs := [.agg #[i64 q24_5_0.kind, q24_5_0.data.val, q24_5_0.items.val, i64 q24_5_0.tree, q24_5_0.parents.val, i64 q24_5_0.time, str q24_5_0.text], .nilIface]) (.inr rfl) rfl (RVs.cell gagg26 rfl rfl Rd.blk (RVs.tmp rfl (RVs.nil))) (⟨q24_5_0.kind, q24_5_0.data, q24_5_0.items, q24_5_0.tree, q24_5_0.parents, q24_5_0.time, q24_5_0.text⟩, .nil) rfl rfl (by (try dsimp only); exact InM.out) (fun _ _ => trivial))

set_option maxHeartbeats 4000000 in
set_option maxRecDepth 100000 in
theorem slices_Equal_object_Item_object_Item_ct (s1_0 : Sv ObjectItem) (s2_1 : Sv ObjectItem) {r : Bool} (hS : Sh.slices_Equal_object_Item_object_Item s1_0.l s2_1.l = some r) :
    Ct Tryd.prog 44 [s1_0.val, s2_1.val] (s1_0.ok.and s2_1.ok) (Ow.emp) (X := Unit) (fun _ => .bool r) (fun _ => True) (fun _ => Mo.tt) (fun _ => Ow.emp) := by
  refine Ct.of Tryd.func44 rfl (by kernel_rfl) Tryd.ntmps44 (by simp) fun c => ?_
  unfold Sh.slices_Equal_object_Item_object_Item at hS
  refine VC.seq ?_
  refine VC.region ?_
  refine VL.q (q_assign rfl) (by decide) ?_
  refine VL.to (fun _ _ h => h) ?_
  refine VC.seq ?_
  refine VC.seq ?_
  refine VC.region ?_
  refine VL.q (q_move rfl) (by decide) ?_
  refine VL.q (q_ln (s := s1_0) Tryd.underlying23 rfl) (by decide) ?_
  refine VL.q (q_move rfl) (by decide) ?_
  refine VL.q (q_ln (s := s2_1) Tryd.underlying23 rfl) (by decide) ?_
  refine VL.q (q_neq rfl rfl) (by decide) ?_
  refine VL.to (fun _ _ h => h) ?_
  refine VC.cond_ndec rfl (fun h10 => ?_) (fun h10 => ?_)
  ·
    replace hS := it_f h10 hS
    refine VC.seq ?_
    refine VC.region ?_
    refine VL.q (q_assign rfl) (by decide) ?_
    refine VL.to (fun _ _ h => h) ?_
    cases hS
    exact VC.ret (fin1 (.inr rfl) rfl rfl () rfl trivial (fun _ _ => trivial) (fun _ _ => trivial))
  ·
    replace hS := it_t h10 hS
    refine VC.skip_to (fun _ _ h => h) ?_
    refine VC.seq ?_
    refine VC.seq ?_
    refine VC.region ?_
    refine VL.q (q_move rfl) (by decide) ?_
    refine VL.q (q_ln (s := s1_0) Tryd.underlying23 rfl) (by decide) ?_
    refine VL.q (q_move rfl) (by decide) ?_
    refine VL.to (fun _ _ h => h) ?_
    refine VC.keep [0, 1, 12, 13] rfl ?_
    refine VC.block ?_
    refine VC.iter (S := Int) (fun (x13_1 : Int) => x13_1) (fun (x13_1 : Int) => [(0, s1_0.val), (1, s2_1.val), (12, i64 (s1_0.l.length : Int)), (13, i64 x13_1)]) (fun (x13_1 : Int) => Mo.tt) (fun (x13_1 : Int) => Ow.emp) 0 [0, 1, 12, 13] hS rfl ?_
    clear hS
    rintro x13_1 m1 y1 hS hK1
    show VC _ _ _ _ _ [(0, s1_0.val), (1, s2_1.val), (12, i64 (s1_0.l.length : Int)), (13, i64 x13_1)] (Mo.and Mo.tt _) (Ow.emp)
    refine VC.seq ?_
    refine VC.region ?_
    refine VL.q (q_lss rfl rfl) (by decide) ?_
    refine VL.to (fun _ _ h => h) ?_
    refine VC.seq ?_
    refine VC.cond_dec rfl (fun h14 => ?_) (fun h14 => ?_)
    ·
      replace hS := it_t h14 hS
      refine VC.skip_to (fun _ _ h => h) ?_
      refine VC.seq ?_
      refine VC.block ?_
      refine VC.seq ?_
      refine VC.region ?_
      refine VL.q (q_move rfl) (by decide) ?_
      refine VL.q (q_assign rfl) (by decide) ?_
      refine VL.to (fun _ _ h => h) ?_
      refine VC.seq ?_
      refine VC.draw ((List.range 9).map fun k => (k, true)) mixed (by kernel_rfl) (by kernel_rfl) (by kernel_rfl) ?_
      refine VD.q rfl (q_move rfl) (by decide) ?_
      refine VD.q rfl (q_move rfl) (by decide) ?_
      obtain ⟨z18_2, nz18_2, hz18_2, hS⟩ := at_s hS
      refine VD.q rfl (q_ixm (s := s1_0) Tryd.underlying23 gsz82 rfl rfl nz18_2 (lt_of_get nz18_2 hz18_2)) (by decide) ?_
      refine VD.q rfl (q_els (s := s1_0) gagg82 rfl rfl hz18_2) (by decide) ?_
      refine VD.q rfl (q_move rfl) (by decide) ?_
      refine VD.q rfl (q_move rfl) (by decide) ?_
      obtain ⟨z22_3, nz22_3, hz22_3, hS⟩ := at_s hS
      refine VD.q rfl (q_ixm (s := s2_1) Tryd.underlying23 gsz82 rfl rfl nz22_3 (lt_of_get nz22_3 hz22_3)) (by decide) ?_
      refine VD.q rfl (q_els (s := s2_1) gagg82 rfl rfl hz22_3) (by decide) ?_
      refine VD.q rfl (q_stneq geqg82 (geqs82 z18_2.path z18_2.mode z18_2.blob z22_3.path z22_3.mode z22_3.blob) rfl rfl) (by decide) ?_
      refine VD.to (fun _ _ h => h) ?_
      refine VC.keep [0, 1, 12, 13, 24] rfl ?_
      refine VC.cond_ndec rfl (fun h24 => ?_) (fun h24 => ?_)
      ·
        replace hS := it_f h24 hS
        refine VC.seq ?_
        refine VC.region ?_
        refine VL.q (q_assign rfl) (by decide) ?_
        refine VL.to (fun _ _ h => h) ?_
        replace hS := up2 hS hK1
        cases hS
        exact VC.ret (fin1 (.inr rfl) rfl rfl () rfl trivial (fun _ _ => trivial) (fun _ _ => trivial))
      ·
        replace hS := it_t h24 hS
        refine VC.skip_to (fun _ _ h => h) ?_
        refine VC.region ?_
        obtain ⟨b25, hS⟩ := gd_s hS
        refine VL.q (q_add rfl rfl b25) (by decide) ?_
        refine VL.q (q_move rfl) (by decide) ?_
        refine VL.rnd (x13_1 + 1) [0, 1, 12, 13] (fun _ _ h => h) (go2 hS hK1) rfl
    ·
      replace hS := it_f h14 hS
      replace hS := up2 hS hK1
      refine VC.exit_to (fun _ _ h => h) ?_
      refine VC.seq ?_
      refine VC.region ?_
      refine VL.q (q_assign rfl) (by decide) ?_
      refine VL.to (fun _ _ h => h) ?_
      cases hS
      exact VC.ret (fin1 (.inr rfl) rfl rfl () rfl trivial (fun _ _ => trivial) (fun _ _ => trivial))

set_option maxHeartbeats 4000000 in
set_option maxRecDepth 100000 in
theorem slices_Equal_int_int_ct (s1_0 : Sv Int) (s2_1 : Sv Int) {r : Bool} (hS : Sh.slices_Equal_int_int s1_0.l s2_1.l = some r) :
    Ct Tryd.prog 45 [s1_0.val, s2_1.val] (s1_0.ok.and s2_1.ok) (Ow.emp) (X := Unit) (fun _ => .bool r) (fun _ => True) (fun _ => Mo.tt) (fun _ => Ow.emp) := by
  refine Ct.of Tryd.func45 rfl (by kernel_rfl) Tryd.ntmps45 (by simp) fun c => ?_
  unfold Sh.slices_Equal_int_int at hS
  refine VC.seq ?_
  refine VC.region ?_
  refine VL.q (q_assign rfl) (by decide) ?_
  refine VL.to (fun _ _ h => h) ?_
  refine VC.seq ?_
  refine VC.seq ?_
  refine VC.region ?_
  refine VL.q (q_move rfl) (by decide) ?_
  refine VL.q (q_ln (s := s1_0) Tryd.underlying24 rfl) (by decide) ?_
  refine VL.q (q_move rfl) (by decide) ?_
  refine VL.q (q_ln (s := s2_1) Tryd.underlying24 rfl) (by decide) ?_
  refine VL.q (q_neq rfl rfl) (by decide) ?_
  refine VL.to (fun _ _ h => h) ?_
  refine VC.cond_ndec rfl (fun h10 => ?_) (fun h10 => ?_)
  ·
    replace hS := it_f h10 hS
    refine VC.seq ?_
    refine VC.region ?_
    refine VL.q (q_assign rfl) (by decide) ?_
    refine VL.to (fun _ _ h => h) ?_
    cases hS
    exact VC.ret (fin1 (.inr rfl) rfl rfl () rfl trivial (fun _ _ => trivial) (fun _ _ => trivial))
  ·
    replace hS := it_t h10 hS
    refine VC.skip_to (fun _ _ h => h) ?_
    refine VC.seq ?_
    refine VC.seq ?_
    refine VC.region ?_
    refine VL.q (q_move rfl) (by decide) ?_
    refine VL.q (q_ln (s := s1_0) Tryd.underlying24 rfl) (by decide) ?_
    refine VL.q (q_move rfl) (by decide) ?_
    refine VL.to (fun _ _ h => h) ?_
    refine VC.keep [0, 1, 12, 13] rfl ?_
    refine VC.block ?_
    refine VC.iter (S := Int) (fun (x13_1 : Int) => x13_1) (fun (x13_1 : Int) => [(0, s1_0.val), (1, s2_1.val), (12, i64 (s1_0.l.length : Int)), (13, i64 x13_1)]) (fun (x13_1 : Int) => Mo.tt) (fun (x13_1 : Int) => Ow.emp) 0 [0, 1, 12, 13] hS rfl ?_
    clear hS
    rintro x13_1 m1 y1 hS hK1
    show VC _ _ _ _ _ [(0, s1_0.val), (1, s2_1.val), (12, i64 (s1_0.l.length : Int)), (13, i64 x13_1)] (Mo.and Mo.tt _) (Ow.emp)
    refine VC.seq ?_
    refine VC.region ?_
    refine VL.q (q_lss rfl rfl) (by decide) ?_
    refine VL.to (fun _ _ h => h) ?_
    refine VC.seq ?_
    refine VC.cond_dec rfl (fun h14 => ?_) (fun h14 => ?_)
    ·
      replace hS := it_t h14 hS
      refine VC.skip_to (fun _ _ h => h) ?_
      refine VC.seq ?_
      refine VC.block ?_
      refine VC.seq ?_
      refine VC.region ?_
      refine VL.q (q_move rfl) (by decide) ?_
      refine VL.q (q_assign rfl) (by decide) ?_
      refine VL.to (fun _ _ h => h) ?_
      refine VC.seq ?_
      refine VC.draw ((List.range 9).map fun k => (k, true)) mixed (by kernel_rfl) (by kernel_rfl) (by kernel_rfl) ?_
      refine VD.q rfl (q_move rfl) (by decide) ?_
      refine VD.q rfl (q_move rfl) (by decide) ?_
      obtain ⟨z18_2, nz18_2, hz18_2, hS⟩ := at_s hS
      refine VD.q rfl (q_ixm (s := s1_0) Tryd.underlying24 gsz3 rfl rfl nz18_2 (lt_of_get nz18_2 hz18_2)) (by decide) ?_
      refine VD.q rfl (q_el (s := s1_0) gone3 rfl hz18_2 rfl) (by decide) ?_
      refine VD.q rfl (q_move rfl) (by decide) ?_
      refine VD.q rfl (q_move rfl) (by decide) ?_
      obtain ⟨z22_3, nz22_3, hz22_3, hS⟩ := at_s hS
      refine VD.q rfl (q_ixm (s := s2_1) Tryd.underlying24 gsz3 rfl rfl nz22_3 (lt_of_get nz22_3 hz22_3)) (by decide) ?_
      refine VD.q rfl (q_el (s := s2_1) gone3 rfl hz22_3 rfl) (by decide) ?_
      refine VD.q rfl (q_neq rfl rfl) (by decide) ?_
      refine VD.to (fun _ _ h => h) ?_
      refine VC.keep [0, 1, 12, 13, 24] rfl ?_
      refine VC.cond_ndec rfl (fun h24 => ?_) (fun h24 => ?_)
      ·
        replace hS := it_f h24 hS
        refine VC.seq ?_
        refine VC.region ?_
        refine VL.q (q_assign rfl) (by decide) ?_
        refine VL.to (fun _ _ h => h) ?_
        replace hS := up2 hS hK1
        cases hS
        exact VC.ret (fin1 (.inr rfl) rfl rfl () rfl trivial (fun _ _ => trivial) (fun _ _ => trivial))
      ·
        replace hS := it_t h24 hS
        refine VC.skip_to (fun _ _ h => h) ?_
        refine VC.region ?_
        obtain ⟨b25, hS⟩ := gd_s hS
        refine VL.q (q_add rfl rfl b25) (by decide) ?_
        refine VL.q (q_move rfl) (by decide) ?_
        refine VL.rnd (x13_1 + 1) [0, 1, 12, 13] (fun _ _ h => h) (go2 hS hK1) rfl
    ·
      replace hS := it_f h14 hS
      replace hS := up2 hS hK1
      refine VC.exit_to (fun _ _ h => h) ?_
      refine VC.seq ?_
      refine VC.region ?_
      refine VL.q (q_assign rfl) (by decide) ?_
      refine VL.to (fun _ _ h => h) ?_
      cases hS
      exact VC.ret (fin1 (.inr rfl) rfl rfl () rfl trivial (fun _ _ => trivial) (fun _ _ => trivial))

set_option maxHeartbeats 4000000 in
set_option maxRecDepth 100000 in
theorem object_Same_ct (a_0 : ObjectObject) (b_1 : ObjectObject) {r : Bool} (hS : Sh.object_Same a_0.pl b_1.pl = some r) :
    Ct Tryd.prog 11 [.agg #[i64 a_0.kind, a_0.data.val, a_0.items.val, i64 a_0.tree, a_0.parents.val, i64 a_0.time, str a_0.text], .agg #[i64 b_1.kind, b_1.data.val, b_1.items.val, i64 b_1.tree, b_1.parents.val, i64 b_1.time, str b_1.text]] (a_0.data.ok.and (a_0.items.ok.and (a_0.parents.ok.and (b_1.data.ok.and (b_1.items.ok.and b_1.parents.ok))))) (Ow.emp) (X := Unit) (fun _ => .bool r) (fun _ => True) (fun _ => Mo.tt) (fun _ => Ow.emp) := by
  refine Ct.of Tryd.func11 rfl (by kernel_rfl) Tryd.ntmps11 (by simp) fun c => ?_
  unfold Sh.object_Same at hS
  refine VC.seq ?_
  refine VC.region ?_
  refine VL.box (cs := [i64 a_0.kind, a_0.data.val, a_0.items.val, i64 a_0.tree, a_0.parents.val, i64 a_0.time, str a_0.text]) rfl rfl (by decide) fun b2_1 => ?_
  refine VL.box (cs := [i64 b_1.kind, b_1.data.val, b_1.items.val, i64 b_1.tree, b_1.parents.val, i64 b_1.time, str b_1.text]) rfl rfl (by decide) fun b3_2 => ?_
  refine VL.q (q_assign rfl) (by decide) ?_
  refine VL.to (fun _ _ h => h) ?_
  refine VC.seq ?_
  refine VC.seq ?_
  refine VC.region ?_
  refine VL.q (q_field gfa26_0 rfl) (by decide) ?_
  refine VL.q (q_fe gone3 rfl rfl) (by decide) ?_
  refine VL.q (q_field gfa26_0 rfl) (by decide) ?_
  refine VL.q (q_fe gone3 rfl rfl) (by decide) ?_
  refine VL.q (q_neq rfl rfl) (by decide) ?_
  refine VL.to (fun _ _ h => h) ?_
  refine VC.cond_ndec rfl (fun h9 => ?_) (fun h9 => ?_)
  ·
    replace hS := it_f h9 hS
    refine VC.seq ?_
    refine VC.region ?_
    refine VL.q (q_assign rfl) (by decide) ?_
    refine VL.to (fun _ _ h => h) ?_
    cases hS
    exact VC.ret (fin1 (.inr rfl) rfl rfl () rfl trivial (fun _ _ => trivial) (fun _ _ => trivial))
  ·
    replace hS := it_t h9 hS
    refine VC.skip_to (fun _ _ h => h) ?_
    refine VC.seq ?_
    refine VC.seq ?_
    refine VC.region ?_
    refine VL.q (q_field gfa26_0 rfl) (by decide) ?_
    refine VL.q (q_fe gone3 rfl rfl) (by decide) ?_
    refine VL.to (fun _ _ h => h) ?_
    refine VC.keep [2, 3, 11] rfl ?_
    refine VC.block ?_
    refine VC.seq ?_
    refine VC.region ?_
    refine VL.q (q_eql rfl rfl) (by decide) ?_
    refine VL.q (q_assign rfl) (by decide) ?_
    refine VL.to (fun _ _ h => h) ?_
    refine VC.cond_dec rfl (fun h12 => ?_) (fun h12 => ?_)
    ·
      replace hS := it_t h12 hS
      refine VC.seq ?_
      refine VC.region ?_
      refine VL.q (q_field gfa26_1 rfl) (by decide) ?_
      refine VL.q (q_fe gone22 rfl rfl) (by decide) ?_
      refine VL.q (q_field gfa26_1 rfl) (by decide) ?_
      refine VL.q (q_fe gone22 rfl rfl) (by decide) ?_
      obtain ⟨y18_3, ey18_3, hS⟩ := bd_s hS
      refine VL.q (q_call (bytes_Equal_ct a_0.data b_1.data ey18_3) rfl (fun _ _ => rfl)) (by decide) ?_
      refine VL.q (q_assign rfl) (by decide) ?_
      refine VL.to (fun _ _ h => h) ?_
      refine VC.keep [4] rfl ?_
      cases hS
      exact VC.ret (fin1 (.inr rfl) rfl rfl () rfl trivial (fun _ _ => trivial) (fun _ _ => trivial))
    ·
      replace hS := it_f h12 hS
      refine VC.seq ?_
      refine VC.region ?_
      refine VL.q (q_eql rfl rfl) (by decide) ?_
      refine VL.q (q_assign rfl) (by decide) ?_
      refine VL.to (fun _ _ h => h) ?_
      refine VC.cond_dec rfl (fun h19 => ?_) (fun h19 => ?_)
      ·
        replace hS := it_t h19 hS
        refine VC.seq ?_
        refine VC.region ?_
        refine VL.q (q_field gfa26_2 rfl) (by decide) ?_
        refine VL.q (q_fe gone23 rfl rfl) (by decide) ?_
        refine VL.q (q_field gfa26_2 rfl) (by decide) ?_
        refine VL.q (q_fe gone23 rfl rfl) (by decide) ?_
        obtain ⟨y25_4, ey25_4, hS⟩ := bd_s hS
        refine VL.q (q_call (slices_Equal_object_Item_object_Item_ct a_0.items b_1.items ey25_4) rfl (fun _ _ => rfl)) (by decide) ?_
        refine VL.q (q_assign rfl) (by decide) ?_
        refine VL.to (fun _ _ h => h) ?_
        refine VC.keep [4] rfl ?_
        cases hS
        exact VC.ret (fin1 (.inr rfl) rfl rfl () rfl trivial (fun _ _ => trivial) (fun _ _ => trivial))
      ·
        replace hS := it_f h19 hS
        refine VC.seq ?_
        refine VC.region ?_
        refine VL.q (q_eql rfl rfl) (by decide) ?_
        refine VL.q (q_assign rfl) (by decide) ?_
        refine VL.to (fun _ _ h => h) ?_
        refine VC.cond_dec rfl (fun h26 => ?_) (fun h26 => ?_)
        ·
          replace hS := it_t h26 hS
          refine VC.seq ?_
          refine VC.region ?_
          refine VL.q (q_field gfa26_3 rfl) (by decide) ?_
          refine VL.q (q_fe gone3 rfl rfl) (by decide) ?_
          refine VL.q (q_field gfa26_3 rfl) (by decide) ?_
          refine VL.q (q_fe gone3 rfl rfl) (by decide) ?_
          refine VL.q (q_eql rfl rfl) (by decide) ?_
          refine VL.q (q_move rfl) (by decide) ?_
          refine VL.split_dec 33 rfl (fun h33 => ?_) (fun h33 => ?_)
          ·
            replace hS := it_t h33 hS
            refine VL.gy rfl rfl (q_field gfa26_4 rfl) (by decide) ?_
            refine VL.gy rfl rfl (q_fe gone24 rfl rfl) (by decide) ?_
            refine VL.gy rfl rfl (q_field gfa26_4 rfl) (by decide) ?_
            refine VL.gy rfl rfl (q_fe gone24 rfl rfl) (by decide) ?_
            obtain ⟨y38_5, ey38_5, hS⟩ := bd_s hS
            refine VL.gy rfl rfl (q_call (slices_Equal_int_int_ct a_0.parents b_1.parents ey38_5) rfl (fun _ _ => rfl)) (by decide) ?_
            refine VL.q (q_pick_t rfl rfl) (by decide) ?_
            refine VL.q (q_move rfl) (by decide) ?_
            refine VL.split 40 rfl (fun h40 => ?_) (fun h40 => ?_)
            ·
              replace hS := it_t h40 hS
              refine VL.gy rfl rfl (q_field gfa26_5 rfl) (by decide) ?_
              refine VL.gy rfl rfl (q_fe gone3 rfl rfl) (by decide) ?_
              refine VL.gy rfl rfl (q_field gfa26_5 rfl) (by decide) ?_
              refine VL.gy rfl rfl (q_fe gone3 rfl rfl) (by decide) ?_
              refine VL.gy rfl rfl (q_eql rfl rfl) (by decide) ?_
              refine VL.q (q_pick_t rfl rfl) (by decide) ?_
              refine VL.q (q_move rfl) (by decide) ?_
              refine VL.split_dec 47 rfl (fun h47 => ?_) (fun h47 => ?_)
              ·
                replace hS := it_t h47 hS
                refine VL.gy rfl rfl (q_field gfa26_6 rfl) (by decide) ?_
                refine VL.gy rfl rfl (q_fe gone9 rfl rfl) (by decide) ?_
                refine VL.gy rfl rfl (q_field gfa26_6 rfl) (by decide) ?_
                refine VL.gy rfl rfl (q_fe gone9 rfl rfl) (by decide) ?_
                refine VL.gy rfl rfl (q_seq rfl rfl) (by decide) ?_
                refine VL.q (q_pick_t rfl rfl) (by decide) ?_
                refine VL.q (q_assign rfl) (by decide) ?_
                refine VL.to (fun _ _ h => h) ?_
                refine VC.keep [4] rfl ?_
                cases hS
                exact VC.ret (fin1 (.inr rfl) rfl rfl () rfl trivial (fun _ _ => trivial) (fun _ _ => trivial))
              ·
                replace hS := it_f h47 hS
                refine VL.gn rfl rfl rfl (by decide) ?_
                refine VL.gn rfl rfl rfl (by decide) ?_
                refine VL.gn rfl rfl rfl (by decide) ?_
                refine VL.gn rfl rfl rfl (by decide) ?_
                refine VL.gn rfl rfl rfl (by decide) ?_
                refine VL.q (q_pick_f rfl rfl) (by decide) ?_
                refine VL.q (q_assign rfl) (by decide) ?_
                refine VL.to (fun _ _ h => h) ?_
                refine VC.keep [4] rfl ?_
                cases hS
                exact VC.ret (fin1 (.inr rfl) rfl rfl () rfl trivial (fun _ _ => trivial) (fun _ _ => trivial))
            ·
              replace hS := it_b h40 hS
              refine VL.gn rfl rfl rfl (by decide) ?_
              refine VL.gn rfl rfl rfl (by decide) ?_
              refine VL.gn rfl rfl rfl (by decide) ?_
              refine VL.gn rfl rfl rfl (by decide) ?_
              refine VL.gn rfl rfl rfl (by decide) ?_
              refine VL.q (q_pick_f rfl rfl) (by decide) ?_
              refine VL.q (q_move rfl) (by decide) ?_
              refine VL.gn rfl rfl rfl (by decide) ?_
              refine VL.gn rfl rfl rfl (by decide) ?_
              refine VL.gn rfl rfl rfl (by decide) ?_
              refine VL.gn rfl rfl rfl (by decide) ?_
              refine VL.gn rfl rfl rfl (by decide) ?_
              refine VL.q (q_pick_f rfl rfl) (by decide) ?_
              refine VL.q (q_assign rfl) (by decide) ?_
              refine VL.to (fun _ _ h => h) ?_
              refine VC.keep [4] rfl ?_
              cases hS
              exact VC.ret (fin1 (.inr rfl) rfl rfl () rfl trivial (fun _ _ => trivial) (fun _ _ => trivial))
          ·
            replace hS := it_f h33 hS
            refine VL.gn rfl rfl rfl (by decide) ?_
            refine VL.gn rfl rfl rfl (by decide) ?_
            refine VL.gn rfl rfl rfl (by decide) ?_
            refine VL.gn rfl rfl rfl (by decide) ?_
            refine VL.gn rfl rfl rfl (by decide) ?_
            refine VL.q (q_pick_f rfl rfl) (by decide) ?_
            refine VL.q (q_move rfl) (by decide) ?_
            refine VL.gn rfl rfl rfl (by decide) ?_
            refine VL.gn rfl rfl rfl (by decide) ?_
            refine VL.gn rfl rfl rfl (by decide) ?_
            refine VL.gn rfl rfl rfl (by decide) ?_
            refine VL.gn rfl rfl rfl (by decide) ?_
            refine VL.q (q_pick_f rfl rfl) (by decide) ?_
            refine VL.q (q_move rfl) (by decide) ?_
            refine VL.gn rfl rfl rfl (by decide) ?_
            refine VL.gn rfl rfl rfl (by decide) ?_
            refine VL.gn rfl rfl rfl (by decide) ?_
            refine VL.gn rfl rfl rfl (by decide) ?_
            refine VL.gn rfl rfl rfl (by decide) ?_
            refine VL.q (q_pick_f rfl rfl) (by decide) ?_
            refine VL.q (q_assign rfl) (by decide) ?_
            refine VL.to (fun _ _ h => h) ?_
            refine VC.keep [4] rfl ?_
            cases hS
            exact VC.ret (fin1 (.inr rfl) rfl rfl () rfl trivial (fun _ _ => trivial) (fun _ _ => trivial))
        ·
          replace hS := it_f h26 hS
          refine VC.skip_to (fun _ _ h => h) ?_
          refine VC.seq ?_
          refine VC.region ?_
          refine VL.q (q_assign rfl) (by decide) ?_
          refine VL.to (fun _ _ h => h) ?_
          cases hS
          exact VC.ret (fin1 (.inr rfl) rfl rfl () rfl trivial (fun _ _ => trivial) (fun _ _ => trivial))

set_option maxHeartbeats 4000000 in
set_option maxRecDepth 100000 in
theorem rectolaw7_known_ct  {r : Bool} (hS : Sh.rectolaw7_known = some r) :
    Ct Tryd.prog 9 [] Mo.tt (Ow.emp) (X := Unit) (fun _ => .bool r) (fun _ => True) (fun _ => Mo.tt) (fun _ => Ow.emp) := by
  refine Ct.of Tryd.func9 rfl (by kernel_rfl) Tryd.ntmps9 (by simp) fun c => ?_
  unfold Sh.rectolaw7_known at hS
  refine VC.seq ?_
  refine VC.region ?_
  refine VL.q (q_assign rfl) (by decide) ?_
  refine VL.to (fun _ _ h => h) ?_
  refine VC.seq ?_
  refine VC.region ?_
  refine VL.q (q_build (vs := [(0, str [97]), (1, i64 1), (2, i64 3)]) (cs := #[str [97], i64 1, i64 3]) rfl (by kernel_rfl)) (by decide) ?_
  refine VL.lit (α := ObjectItem) (xs := [.tmp 8]) (vs := [.agg #[str [97], i64 1, i64 3]]) [⟨[97], 1, 3⟩] Tryd.underlying23 glit82 (by decide) rfl rfl rfl rfl (by decide) (fun _ _ _ _ => trivial) (by decide) (fun s9_1 hs9_1 => ?_) (by decide)
  replace hS := lt_to hs9_1 hS
  refine VL.q (q_build (vs := [(0, i64 2), (2, s9_1.val)]) (cs := #[i64 2, .slice none 0 0, s9_1.val, i64 0, .slice none 0 0, i64 0, str []]) rfl (by kernel_rfl)) (by decide) ?_
  refine VL.alloc (cs := [i64 0, .slice none 0 0, .slice none 0 0, i64 0, .slice none 0 0, i64 0, str []]) (by kernel_rfl) (by decide) fun b1_3 => ?_
  refine VL.store (vc := [i64 2, .slice none 0 0, s9_1.val, i64 0, .slice none 0 0, i64 0, str []]) (cs' := [i64 2, .slice none 0 0, s9_1.val, i64 0, .slice none 0 0, i64 0, str []]) rfl rfl rfl gsz26 rfl rfl (Nat.le_of_ble_eq_true rfl) rfl ?_
  refine VL.to (fun _ _ h => h) ?_
  refine VC.seq ?_
  refine VC.region ?_
  refine VL.q (q_fes gagg26 rfl rfl) (by decide) ?_
  obtain ⟨y13_4, ey13_4, hS⟩ := bd_s hS
  refine VL.callO (object_Encode_ct (⟨2, ⟨none, 0, []⟩, s9_1, 0, ⟨none, 0, []⟩, 0, []⟩ : ObjectObject) ey13_4) rfl (by decide) ?_
  rintro ⟨q13_4_0, q13_4_1⟩ rfl
  try dsimp only
  refine VL.q (q_move rfl) (by decide) ?_
  refine VL.q (q_extract rfl rfl) (by decide) ?_
  refine VL.q (q_extract rfl rfl) (by decide) ?_
  refine VL.q (q_assign rfl) (by decide) ?_
  refine VL.q (q_assign rfl) (by decide) ?_
  refine VL.to (fun _ _ h => h) ?_
  refine VC.keep [1, 2, 3] rfl ?_
  refine VC.seq ?_
  refine VC.region ?_
  refine VL.q (q_move rfl) (by decide) ?_
  refine VL.shut q13_4_0 5 (fun _ _ _ _ => trivial) ?_
  obtain ⟨y18_5, ey18_5, hS⟩ := bd_s hS
  refine VL.callF (object_Decode_ct q13_4_0 ey18_5) rfl (by decide) ?_
  rintro ⟨q18_5_0, q18_5_1⟩ rfl
  try dsimp only
  refine VL.q (q_move rfl) (by decide) ?_
  refine VL.q (q_extract rfl rfl) (by decide) ?_
  refine VL.q (q_extract rfl rfl) (by decide) ?_
  refine VL.alloc (cs := [i64 0, .slice none 0 0, .slice none 0 0, i64 0, .slice none 0 0, i64 0, str []]) (by kernel_rfl) (by decide) fun b4_6 => ?_
  refine VL.store (vc := [i64 q18_5_0.kind, q18_5_0.data.val, q18_5_0.items.val, i64 q18_5_0.tree, q18_5_0.parents.val, i64 q18_5_0.time, str q18_5_0.text]) (cs' := [i64 q18_5_0.kind, q18_5_0.data.val, q18_5_0.items.val, i64 q18_5_0.tree, q18_5_0.parents.val, i64 q18_5_0.time, str q18_5_0.text]) rfl rfl rfl gsz26 rfl rfl (Nat.le_of_ble_eq_true rfl) rfl ?_
  refine VL.q (q_assign rfl) (by decide) ?_
  refine VL.to (fun _ _ h => h) ?_
  refine VC.seq ?_
  refine VC.region ?_
  refine VL.q (q_build (vs := []) (cs := #[i64 0, .slice none 0 0, .slice none 0 0, i64 0, .slice none 0 0, i64 0, str []]) rfl (by kernel_rfl)) (by decide) ?_
  obtain ⟨y23_7, ey23_7, hS⟩ := bd_s hS
  refine VL.callO (object_Encode_ct (⟨0, ⟨none, 0, []⟩, ⟨none, 0, []⟩, 0, ⟨none, 0, []⟩, 0, []⟩ : ObjectObject) ey23_7) rfl (by decide) ?_
  rintro ⟨q23_7_0, q23_7_1⟩ rfl
  try dsimp only
  refine VL.q (q_move rfl) (by decide) ?_
  refine VL.q (q_extract rfl rfl) (by decide) ?_
  refine VL.q (q_extract rfl rfl) (by decide) ?_
  refine VL.q (q_assign rfl) (by decide) ?_
  refine VL.q (q_assign rfl) (by decide) ?_
  refine VL.to (fun _ _ h => h) ?_
  refine VC.keep [1, 3, 4, 5, 7] rfl ?_
  refine VC.seq ?_
  refine VC.region ?_
  refine VL.q (q_move rfl) (by decide) ?_
  refine VL.q (q_ereq Tryd.underlying44 rfl) (by decide) ?_
  refine VL.q (q_move rfl) (by decide) ?_
  refine VL.split_dec 28 rfl (fun h28 => ?_) (fun h28 => ?_)
  ·
    replace hS := it_t h28 hS
    refine VL.gy rfl rfl (q_move rfl) (by decide) ?_
    refine VL.gy rfl rfl (q_ereq Tryd.underlying44 rfl) (by decide) ?_
    refine VL.q (q_pick_t rfl rfl) (by decide) ?_
    refine VL.q (q_move rfl) (by decide) ?_
    refine VL.split_dec 32 rfl (fun h32 => ?_) (fun h32 => ?_)
    ·
      replace hS := it_t h32 hS
      refine VL.gy rfl rfl (q_move rfl) (by decide) ?_
      refine VL.gy rfl rfl (q_erne Tryd.underlying44 rfl) (by decide) ?_
      refine VL.q (q_pick_t rfl rfl) (by decide) ?_
      refine VL.q (q_move rfl) (by decide) ?_
      refine VL.split_ndec 36 rfl (fun h36 => ?_) (fun h36 => ?_)
      ·
        replace hS := it_f h36 hS
        refine VL.gy rfl rfl (q_fes gagg26 rfl rfl) (by decide) ?_
        refine VL.gy rfl rfl (q_fes gagg26 rfl rfl) (by decide) ?_
        obtain ⟨y39_8, ey39_8, hS⟩ := bd_s hS
        refine VL.gy rfl rfl (q_call (object_Same_ct q18_5_0 (⟨2, ⟨none, 0, []⟩, s9_1, 0, ⟨none, 0, []⟩, 0, []⟩ : ObjectObject) ey39_8) rfl (fun _ _ => rfl)) (by decide) ?_
        refine VL.q (q_pick_t rfl rfl) (by decide) ?_
        refine VL.q (q_move rfl) (by decide) ?_
        refine VL.split 41 rfl (fun h41 => ?_) (fun h41 => ?_)
        ·
          replace hS := it_t h41 hS
          refine VL.gy rfl rfl (q_fes gagg26 rfl rfl) (by decide) ?_
          refine VL.guard rfl rfl ?_
          obtain ⟨y43_9, ey43_9, hS⟩ := bd_s hS
          refine VL.callF (object_Check_ct (⟨2, ⟨none, 0, []⟩, s9_1, 0, ⟨none, 0, []⟩, 0, []⟩ : ObjectObject) ey43_9) rfl (by decide) ?_
          rintro q43_9_0 rfl
          try dsimp only
          refine VL.gy rfl rfl (q_ereq Tryd.underlying44 rfl) (by decide) ?_
          refine VL.q (q_pick_t rfl rfl) (by decide) ?_
          refine VL.q (q_move rfl) (by decide) ?_
          refine VL.split_dec 46 rfl (fun h46 => ?_) (fun h46 => ?_)
          ·
            replace hS := it_t h46 hS
            refine VL.gy rfl rfl (q_fes gagg26 rfl rfl) (by decide) ?_
            refine VL.gy rfl rfl (q_build (vs := [(0, i64 2)]) (cs := #[i64 2, .slice none 0 0, .slice none 0 0, i64 0, .slice none 0 0, i64 0, str []]) rfl (by kernel_rfl)) (by decide) ?_
            obtain ⟨y49_10, ey49_10, hS⟩ := bd_s hS
            refine VL.gy rfl rfl (q_call (object_Same_ct (⟨2, ⟨none, 0, []⟩, s9_1, 0, ⟨none, 0, []⟩, 0, []⟩ : ObjectObject) (⟨2, ⟨none, 0, []⟩, ⟨none, 0, []⟩, 0, ⟨none, 0, []⟩, 0, []⟩ : ObjectObject) ey49_10) rfl (fun _ _ => rfl)) (by decide) ?_
            refine VL.gy rfl rfl (q_not rfl) (by decide) ?_
            refine VL.q (q_pick_t rfl rfl) (by decide) ?_
            refine VL.q (q_assign rfl) (by decide) ?_
            refine VL.to (fun _ _ h => h) ?_
            refine VC.keep [0] rfl ?_
            cases hS
            exact VC.ret (fin1 (.inr rfl) rfl rfl () rfl trivial (fun _ _ => trivial) (fun _ _ => trivial))
          ·
            replace hS := it_f h46 hS
            refine VL.gn rfl rfl rfl (by decide) ?_
            refine VL.gn rfl rfl rfl (by decide) ?_
            refine VL.gn rfl rfl rfl (by decide) ?_
            refine VL.gn rfl rfl rfl (by decide) ?_
            refine VL.q (q_pick_f rfl rfl) (by decide) ?_
            refine VL.q (q_assign rfl) (by decide) ?_
            refine VL.to (fun _ _ h => h) ?_
            refine VC.keep [0] rfl ?_
            cases hS
            exact VC.ret (fin1 (.inr rfl) rfl rfl () rfl trivial (fun _ _ => trivial) (fun _ _ => trivial))
        ·
          replace hS := it_b h41 hS
          refine VL.gn rfl rfl rfl (by decide) ?_
          refine VL.gn rfl rfl rfl (by decide) ?_
          refine VL.gn rfl rfl rfl (by decide) ?_
          refine VL.q (q_pick_f rfl rfl) (by decide) ?_
          refine VL.q (q_move rfl) (by decide) ?_
          refine VL.gn rfl rfl rfl (by decide) ?_
          refine VL.gn rfl rfl rfl (by decide) ?_
          refine VL.gn rfl rfl rfl (by decide) ?_
          refine VL.gn rfl rfl rfl (by decide) ?_
          refine VL.q (q_pick_f rfl rfl) (by decide) ?_
          refine VL.q (q_assign rfl) (by decide) ?_
          refine VL.to (fun _ _ h => h) ?_
          refine VC.keep [0] rfl ?_
          cases hS
          exact VC.ret (fin1 (.inr rfl) rfl rfl () rfl trivial (fun _ _ => trivial) (fun _ _ => trivial))
      ·
        replace hS := it_t h36 hS
        refine VL.gn rfl rfl rfl (by decide) ?_
        refine VL.gn rfl rfl rfl (by decide) ?_
        refine VL.gn rfl rfl rfl (by decide) ?_
        refine VL.q (q_pick_f rfl rfl) (by decide) ?_
        refine VL.q (q_move rfl) (by decide) ?_
        refine VL.gn rfl rfl rfl (by decide) ?_
        refine VL.gn rfl rfl rfl (by decide) ?_
        refine VL.gn rfl rfl rfl (by decide) ?_
        refine VL.q (q_pick_f rfl rfl) (by decide) ?_
        refine VL.q (q_move rfl) (by decide) ?_
        refine VL.gn rfl rfl rfl (by decide) ?_
        refine VL.gn rfl rfl rfl (by decide) ?_
        refine VL.gn rfl rfl rfl (by decide) ?_
        refine VL.gn rfl rfl rfl (by decide) ?_
        refine VL.q (q_pick_f rfl rfl) (by decide) ?_
        refine VL.q (q_assign rfl) (by decide) ?_
        refine VL.to (fun _ _ h => h) ?_
        refine VC.keep [0] rfl ?_
        cases hS
        exact VC.ret (fin1 (.inr rfl) rfl rfl () rfl trivial (fun _ _ => trivial) (fun _ _ => trivial))
    ·
      replace hS := it_f h32 hS
      refine VL.gn rfl rfl rfl (by decide) ?_
      refine VL.gn rfl rfl rfl (by decide) ?_
      refine VL.q (q_pick_f rfl rfl) (by decide) ?_
      refine VL.q (q_move rfl) (by decide) ?_
      refine VL.gn rfl rfl rfl (by decide) ?_
      refine VL.gn rfl rfl rfl (by decide) ?_
      refine VL.gn rfl rfl rfl (by decide) ?_
      refine VL.q (q_pick_f rfl rfl) (by decide) ?_
      refine VL.q (q_move rfl) (by decide) ?_
      refine VL.gn rfl rfl rfl (by decide) ?_
      refine VL.gn rfl rfl rfl (by decide) ?_
      refine VL.gn rfl rfl rfl (by decide) ?_
      refine VL.q (q_pick_f rfl rfl) (by decide) ?_
      refine VL.q (q_move rfl) (by decide) ?_
      refine VL.gn rfl rfl rfl (by decide) ?_
      refine VL.gn rfl rfl rfl (by decide) ?_
      refine VL.gn rfl rfl rfl (by decide) ?_
      refine VL.gn rfl rfl rfl (by decide) ?_
      refine VL.q (q_pick_f rfl rfl) (by decide) ?_
      refine VL.q (q_assign rfl) (by decide) ?_
      refine VL.to (fun _ _ h => h) ?_
      refine VC.keep [0] rfl ?_
      cases hS
      exact VC.ret (fin1 (.inr rfl) rfl rfl () rfl trivial (fun _ _ => trivial) (fun _ _ => trivial))
  ·
    replace hS := it_f h28 hS
    refine VL.gn rfl rfl rfl (by decide) ?_
    refine VL.gn rfl rfl rfl (by decide) ?_
    refine VL.q (q_pick_f rfl rfl) (by decide) ?_
    refine VL.q (q_move rfl) (by decide) ?_
    refine VL.gn rfl rfl rfl (by decide) ?_
    refine VL.gn rfl rfl rfl (by decide) ?_
    refine VL.q (q_pick_f rfl rfl) (by decide) ?_
    refine VL.q (q_move rfl) (by decide) ?_
    refine VL.gn rfl rfl rfl (by decide) ?_
    refine VL.gn rfl rfl rfl (by decide) ?_
    refine VL.gn rfl rfl rfl (by decide) ?_
    refine VL.q (q_pick_f rfl rfl) (by decide) ?_
    refine VL.q (q_move rfl) (by decide) ?_
    refine VL.gn rfl rfl rfl (by decide) ?_
    refine VL.gn rfl rfl rfl (by decide) ?_
    refine VL.gn rfl rfl rfl (by decide) ?_
    refine VL.q (q_pick_f rfl rfl) (by decide) ?_
    refine VL.q (q_move rfl) (by decide) ?_
    refine VL.gn rfl rfl rfl (by decide) ?_
    refine VL.gn rfl rfl rfl (by decide) ?_
    refine VL.gn rfl rfl rfl (by decide) ?_
    refine VL.gn rfl rfl rfl (by decide) ?_
    refine VL.q (q_pick_f rfl rfl) (by decide) ?_
    refine VL.q (q_assign rfl) (by decide) ?_
    refine VL.to (fun _ _ h => h) ?_
    refine VC.keep [0] rfl ?_
    cases hS
    exact VC.ret (fin1 (.inr rfl) rfl rfl () rfl trivial (fun _ _ => trivial) (fun _ _ => trivial))

set_option maxHeartbeats 4000000 in
set_option maxRecDepth 100000 in
theorem rectolaw7_Few_ct (o_0 : ObjectObject) {r : Bool} (hS : Sh.rectolaw7_Few o_0.pl = some r) :
    Ct Tryd.prog 10 [.agg #[i64 o_0.kind, o_0.data.val, o_0.items.val, i64 o_0.tree, o_0.parents.val, i64 o_0.time, str o_0.text]] (o_0.data.ok.and (o_0.items.ok.and o_0.parents.ok)) (Ow.emp) (X := Unit) (fun _ => .bool r) (fun _ => True) (fun _ => Mo.tt) (fun _ => Ow.emp) := by
  refine Ct.of Tryd.func10 rfl (by kernel_rfl) Tryd.ntmps10 (by simp) fun c => ?_
  unfold Sh.rectolaw7_Few at hS
  refine VC.seq ?_
  refine VC.region ?_
  refine VL.box (cs := [i64 o_0.kind, o_0.data.val, o_0.items.val, i64 o_0.tree, o_0.parents.val, i64 o_0.time, str o_0.text]) rfl rfl (by decide) fun b1_1 => ?_
  refine VL.q (q_assign rfl) (by decide) ?_
  refine VL.to (fun _ _ h => h) ?_
  refine VC.seq ?_
  refine VC.cutJ (S := Bool) (fun (x25_2 : Bool) => x25_2) (fun (x25_2 : Bool) => [(1, ptr b1_1 0), (25, .bool x25_2)]) (fun (x25_2 : Bool) => Mo.tt) (fun (x25_2 : Bool) => Ow.star (Blk b1_1 [i64 o_0.kind, o_0.data.val, o_0.items.val, i64 o_0.tree, o_0.parents.val, i64 o_0.time, str o_0.text] 26) (Ow.emp)) hS ?_ ?_
  · -- up to where ways meet
    clear hS
    intro k3 hS
    refine VC.region ?_
    refine VL.q (q_field gfa26_1 rfl) (by decide) ?_
    refine VL.q (q_fe gone22 rfl rfl) (by decide) ?_
    refine VL.q (q_ln (s := o_0.data) Tryd.underlying22 rfl) (by decide) ?_
    refine VL.q (q_gtr rfl rfl) (by decide) ?_
    refine VL.q (q_move rfl) (by decide) ?_
    refine VL.split_dec 8 rfl (fun h8 => ?_) (fun h8 => ?_)
    ·
      replace hS := it_t h8 hS
      refine VL.gn rfl rfl rfl (by decide) ?_
      refine VL.gn rfl rfl rfl (by decide) ?_
      refine VL.gn rfl rfl rfl (by decide) ?_
      refine VL.gn rfl rfl rfl (by decide) ?_
      refine VL.q (q_pick_t rfl rfl) (by decide) ?_
      refine VL.q (q_move rfl) (by decide) ?_
      refine VL.gn rfl rfl rfl (by decide) ?_
      refine VL.gn rfl rfl rfl (by decide) ?_
      refine VL.gn rfl rfl rfl (by decide) ?_
      refine VL.gn rfl rfl rfl (by decide) ?_
      refine VL.q (q_pick_t rfl rfl) (by decide) ?_
      refine VL.q (q_move rfl) (by decide) ?_
      refine VL.gn rfl rfl rfl (by decide) ?_
      refine VL.gn rfl rfl rfl (by decide) ?_
      refine VL.gn rfl rfl rfl (by decide) ?_
      refine VL.gn rfl rfl rfl (by decide) ?_
      refine VL.q (q_pick_t rfl rfl) (by decide) ?_
      refine VL.mt true [1, 25] (fun _ _ h => h) hS rfl
    ·
      replace hS := it_f h8 hS
      refine VL.gy rfl rfl (q_field gfa26_2 rfl) (by decide) ?_
      refine VL.gy rfl rfl (q_fe gone23 rfl rfl) (by decide) ?_
      refine VL.gy rfl rfl (q_ln (s := o_0.items) Tryd.underlying23 rfl) (by decide) ?_
      refine VL.gy rfl rfl (q_gtr rfl rfl) (by decide) ?_
      refine VL.q (q_pick_f rfl rfl) (by decide) ?_
      refine VL.q (q_move rfl) (by decide) ?_
      refine VL.split_dec 14 rfl (fun h14 => ?_) (fun h14 => ?_)
      ·
        replace hS := it_t h14 hS
        refine VL.gn rfl rfl rfl (by decide) ?_
        refine VL.gn rfl rfl rfl (by decide) ?_
        refine VL.gn rfl rfl rfl (by decide) ?_
        refine VL.gn rfl rfl rfl (by decide) ?_
        refine VL.q (q_pick_t rfl rfl) (by decide) ?_
        refine VL.q (q_move rfl) (by decide) ?_
        refine VL.gn rfl rfl rfl (by decide) ?_
        refine VL.gn rfl rfl rfl (by decide) ?_
        refine VL.gn rfl rfl rfl (by decide) ?_
        refine VL.gn rfl rfl rfl (by decide) ?_
        refine VL.q (q_pick_t rfl rfl) (by decide) ?_
        refine VL.mt true [1, 25] (fun _ _ h => h) hS rfl
      ·
        replace hS := it_f h14 hS
        refine VL.gy rfl rfl (q_field gfa26_4 rfl) (by decide) ?_
        refine VL.gy rfl rfl (q_fe gone24 rfl rfl) (by decide) ?_
        refine VL.gy rfl rfl (q_ln (s := o_0.parents) Tryd.underlying24 rfl) (by decide) ?_
        refine VL.gy rfl rfl (q_gtr rfl rfl) (by decide) ?_
        refine VL.q (q_pick_f rfl rfl) (by decide) ?_
        refine VL.q (q_move rfl) (by decide) ?_
        refine VL.split_dec 20 rfl (fun h20 => ?_) (fun h20 => ?_)
        ·
          replace hS := it_t h20 hS
          refine VL.gn rfl rfl rfl (by decide) ?_
          refine VL.gn rfl rfl rfl (by decide) ?_
          refine VL.gn rfl rfl rfl (by decide) ?_
          refine VL.gn rfl rfl rfl (by decide) ?_
          refine VL.q (q_pick_t rfl rfl) (by decide) ?_
          refine VL.mt true [1, 25] (fun _ _ h => h) hS rfl
        ·
          replace hS := it_f h20 hS
          refine VL.gy rfl rfl (q_field gfa26_6 rfl) (by decide) ?_
          refine VL.gy rfl rfl (q_fe gone9 rfl rfl) (by decide) ?_
          refine VL.gy rfl rfl (q_slen Tryd.underlying9 rfl) (by decide) ?_
          refine VL.gy rfl rfl (q_gtr rfl rfl) (by decide) ?_
          refine VL.q (q_pick_f rfl rfl) (by decide) ?_
          refine VL.mt (decide (400 < (o_0.text.length : Int))) [1, 25] (fun _ _ h => h) hS rfl
  · -- from there
    clear hS
    rintro x25_2 hS
    show VC _ _ _ _ _ [(1, ptr b1_1 0), (25, .bool x25_2)] (Mo.and Mo.tt _) (Ow.star (Blk b1_1 [i64 o_0.kind, o_0.data.val, o_0.items.val, i64 o_0.tree, o_0.parents.val, i64 o_0.time, str o_0.text] 26) (Ow.emp))
    refine VC.cond rfl (fun h25 => ?_) (fun h25 => ?_)
    ·
      replace hS := it_t h25 hS
      refine VC.seq ?_
      refine VC.region ?_
      refine VL.q (q_assign rfl) (by decide) ?_
      refine VL.to (fun _ _ h => h) ?_
      cases hS
      exact VC.ret (fin1 (.inr rfl) rfl rfl () rfl trivial (fun _ _ => trivial) (fun _ _ => trivial))
    ·
      replace hS := it_b h25 hS
      refine VC.skip_to (fun _ _ h => h) ?_
      refine VC.seq ?_
      refine VC.seq ?_
      refine VC.region ?_
      refine VL.q (q_assign rfl) (by decide) ?_
      refine VL.to (fun _ _ h => h) ?_
      refine VC.block ?_
      refine VC.iter (S := Int) (fun (i3_4 : Int) => i3_4) (fun (i3_4 : Int) => [(1, ptr b1_1 0), (3, i64 i3_4)]) (fun (i3_4 : Int) => Mo.tt) (fun (i3_4 : Int) => Ow.star (Blk b1_1 [i64 o_0.kind, o_0.data.val, o_0.items.val, i64 o_0.tree, o_0.parents.val, i64 o_0.time, str o_0.text] 26) (Ow.emp)) 0 [1, 3] hS rfl ?_
      clear hS
      rintro i3_4 m1 y1 hS hK1
      show VC _ _ _ _ _ [(1, ptr b1_1 0), (3, i64 i3_4)] (Mo.and Mo.tt _) (Ow.star (Blk b1_1 [i64 o_0.kind, o_0.data.val, o_0.items.val, i64 o_0.tree, o_0.parents.val, i64 o_0.time, str o_0.text] 26) (Ow.emp))
      refine VC.seq ?_
      refine VC.seq ?_
      refine VC.region ?_
      refine VL.q (q_move rfl) (by decide) ?_
      refine VL.q (q_field gfa26_2 rfl) (by decide) ?_
      refine VL.q (q_fe gone23 rfl rfl) (by decide) ?_
      refine VL.q (q_ln (s := o_0.items) Tryd.underlying23 rfl) (by decide) ?_
      refine VL.q (q_lss rfl rfl) (by decide) ?_
      refine VL.to (fun _ _ h => h) ?_
      refine VC.cond_dec rfl (fun h30 => ?_) (fun h30 => ?_)
      ·
        replace hS := it_t h30 hS
        refine VC.skip_to (fun _ _ h => h) ?_
        refine VC.seq ?_
        refine VC.block ?_
        refine VC.seq ?_
        refine VC.region ?_
        refine VL.q (q_field gfa26_2 rfl) (by decide) ?_
        refine VL.q (q_fe gone23 rfl rfl) (by decide) ?_
        refine VL.q (q_move rfl) (by decide) ?_
        obtain ⟨z36_5, nz36_5, hz36_5, hS⟩ := at_s hS
        refine VL.q (q_ixm (s := o_0.items) Tryd.underlying23 gsz82 rfl rfl nz36_5 (lt_of_get nz36_5 hz36_5)) (by decide) ?_
        refine VL.q (q_field gfa82_0 rfl) (by decide) ?_
        refine VL.q (q_elf (s := o_0.items) gone9 rfl hz36_5 rfl) (by decide) ?_
        refine VL.q (q_slen Tryd.underlying9 rfl) (by decide) ?_
        refine VL.q (q_gtr rfl rfl) (by decide) ?_
        refine VL.to (fun _ _ h => h) ?_
        refine VC.keep [1, 3, 40] rfl ?_
        refine VC.cond_dec rfl (fun h40 => ?_) (fun h40 => ?_)
        ·
          replace hS := it_t h40 hS
          refine VC.seq ?_
          refine VC.region ?_
          refine VL.q (q_assign rfl) (by decide) ?_
          refine VL.to (fun _ _ h => h) ?_
          replace hS := up2 hS hK1
          cases hS
          exact VC.ret (fin1 (.inr rfl) rfl rfl () rfl trivial (fun _ _ => trivial) (fun _ _ => trivial))
        ·
          replace hS := it_f h40 hS
          refine VC.skip_to (fun _ _ h => h) ?_
          refine VC.region ?_
          refine VL.q (q_move rfl) (by decide) ?_
          obtain ⟨b32, hS⟩ := gd_s hS
          refine VL.q (q_add rfl rfl b32) (by decide) ?_
          refine VL.q (q_assign rfl) (by decide) ?_
          refine VL.rnd (i3_4 + 1) [1, 3] (fun _ _ h => h) (go2 hS hK1) rfl
      ·
        replace hS := it_f h30 hS
        replace hS := up2 hS hK1
        refine VC.exit_to (fun _ _ h => h) ?_
        refine VC.seq ?_
        refine VC.region ?_
        refine VL.q (q_assign rfl) (by decide) ?_
        refine VL.to (fun _ _ h => h) ?_
        cases hS
        exact VC.ret (fin1 (.inr rfl) rfl rfl () rfl trivial (fun _ _ => trivial) (fun _ _ => trivial))

set_option maxHeartbeats 4000000 in
set_option maxRecDepth 100000 in
theorem rectolaw7_Of_ct (o_0 : ObjectObject) {r : Rectoref7ObjectP} (hS : Sh.rectolaw7_Of o_0.pl = some r) :
    Ct Tryd.prog 13 [.agg #[i64 o_0.kind, o_0.data.val, o_0.items.val, i64 o_0.tree, o_0.parents.val, i64 o_0.time, str o_0.text]] (o_0.data.ok.and (o_0.items.ok.and o_0.parents.ok)) (Ow.emp) (X := Rectoref7Object) (fun x => .agg (Dat.enc x).toArray) (fun x => r = x.pl) (fun x => x.m) (fun x => Ow.emp) := by
  refine Ct.of Tryd.func13 rfl (by kernel_rfl) Tryd.ntmps13 (by simp) fun c => ?_
  unfold Sh.rectolaw7_Of at hS
  refine VC.seq ?_
  refine VC.region ?_
  refine VL.box (cs := [i64 o_0.kind, o_0.data.val, o_0.items.val, i64 o_0.tree, o_0.parents.val, i64 o_0.time, str o_0.text]) rfl rfl (by decide) fun b1_1 => ?_
  refine VL.alloc (cs := [i64 0, str [], .slice none 0 0, i64 0, .slice none 0 0, i64 0, str []]) (by kernel_rfl) (by decide) fun b2_2 => ?_
  refine VL.to (fun _ _ h => h) ?_
  refine VC.seq ?_
  refine VC.region ?_
  refine VL.q (q_field gfa26_0 rfl) (by decide) ?_
  refine VL.q (q_fe gone3 rfl rfl) (by decide) ?_
  refine VL.q (q_field gfa26_1 rfl) (by decide) ?_
  refine VL.q (q_fe gone22 rfl rfl) (by decide) ?_
  refine VL.q (q_b2s (s := o_0.data) Tryd.underlying22 Tryd.underlying5 Tryd.underlying9 rfl) (by decide) ?_
  refine VL.q (q_field gfa26_3 rfl) (by decide) ?_
  refine VL.q (q_fe gone3 rfl rfl) (by decide) ?_
  refine VL.q (q_field gfa26_4 rfl) (by decide) ?_
  refine VL.q (q_fe gone24 rfl rfl) (by decide) ?_
  refine VL.q (q_field gfa26_5 rfl) (by decide) ?_
  refine VL.q (q_fe gone3 rfl rfl) (by decide) ?_
  refine VL.q (q_field gfa26_6 rfl) (by decide) ?_
  refine VL.q (q_fe gone9 rfl rfl) (by decide) ?_
  refine VL.q (q_build (vs := [(0, i64 o_0.kind), (1, str o_0.data.l), (3, i64 o_0.tree), (4, o_0.parents.val), (5, i64 o_0.time), (6, str o_0.text)]) (cs := #[i64 o_0.kind, str o_0.data.l, .slice none 0 0, i64 o_0.tree, o_0.parents.val, i64 o_0.time, str o_0.text]) rfl (by kernel_rfl)) (by decide) ?_
  refine VL.alloc (cs := [i64 0, str [], .slice none 0 0, i64 0, .slice none 0 0, i64 0, str []]) (by kernel_rfl) (by decide) fun b3_3 => ?_
  refine VL.store (vc := [i64 o_0.kind, str o_0.data.l, .slice none 0 0, i64 o_0.tree, o_0.parents.val, i64 o_0.time, str o_0.text]) (cs' := [i64 o_0.kind, str o_0.data.l, .slice none 0 0, i64 o_0.tree, o_0.parents.val, i64 o_0.time, str o_0.text]) rfl rfl rfl gsz33 rfl rfl (Nat.le_of_ble_eq_true rfl) rfl ?_
  refine VL.to (fun _ _ h => h) ?_
  refine VC.keep [1, 2, 3] rfl ?_
  refine VC.seq ?_
  refine VC.seq ?_
  refine VC.region ?_
  refine VL.q (q_assign rfl) (by decide) ?_
  refine VL.to (fun _ _ h => h) ?_
  refine VC.block ?_
  refine VC.nilO (⟨none, 0, []⟩ : Sv Rectoref7Item) 91 ⟨rfl, rfl⟩ ?_
  refine VC.reB b3_3 (cs' := [i64 o_0.kind, str o_0.data.l, (⟨none, 0, []⟩ : Sv Rectoref7Item).val, i64 o_0.tree, o_0.parents.val, i64 o_0.time, str o_0.text]) rfl ?_
  refine VC.iter (S := Int × Sv Rectoref7Item) (fun sg => (sg.1, sg.2.l)) (fun sg => [(1, ptr b1_1 0), (2, ptr b2_2 0), (3, ptr b3_3 0), (4, i64 sg.1)]) (fun sg => Mo.tt) (fun sg => Ow.star (Blk b3_3 [i64 o_0.kind, str o_0.data.l, sg.2.val, i64 o_0.tree, o_0.parents.val, i64 o_0.time, str o_0.text] 33) (Ow.star (Blk b2_2 [i64 0, str [], .slice none 0 0, i64 0, .slice none 0 0, i64 0, str []] 33) (Ow.star (Blk b1_1 [i64 o_0.kind, o_0.data.val, o_0.items.val, i64 o_0.tree, o_0.parents.val, i64 o_0.time, str o_0.text] 26) (Ow.star (Sv.own sg.2 91) (Ow.emp))))) (0, (⟨none, 0, []⟩ : Sv Rectoref7Item)) [1, 2, 3, 4] hS rfl ?_
  clear hS
  rintro ⟨i4_4, c2_5⟩ m1 y1 hS hK1
  show VC _ _ _ _ _ [(1, ptr b1_1 0), (2, ptr b2_2 0), (3, ptr b3_3 0), (4, i64 i4_4)] (Mo.and Mo.tt _) (Ow.star (Blk b3_3 [i64 o_0.kind, str o_0.data.l, c2_5.val, i64 o_0.tree, o_0.parents.val, i64 o_0.time, str o_0.text] 33) (Ow.star (Blk b2_2 [i64 0, str [], .slice none 0 0, i64 0, .slice none 0 0, i64 0, str []] 33) (Ow.star (Blk b1_1 [i64 o_0.kind, o_0.data.val, o_0.items.val, i64 o_0.tree, o_0.parents.val, i64 o_0.time, str o_0.text] 26) (Ow.star (Sv.own c2_5 91) (Ow.emp)))))
  refine VC.seq ?_
  refine VC.seq ?_
  refine VC.region ?_
  refine VL.q (q_move rfl) (by decide) ?_
  refine VL.q (q_field gfa26_2 rfl) (by decide) ?_
  refine VL.q (q_fe gone23 rfl rfl) (by decide) ?_
  refine VL.q (q_ln (s := o_0.items) Tryd.underlying23 rfl) (by decide) ?_
  refine VL.q (q_lss rfl rfl) (by decide) ?_
  refine VL.to (fun _ _ h => h) ?_
  refine VC.cond_dec rfl (fun h23 => ?_) (fun h23 => ?_)
  ·
    replace hS := it_t h23 hS
    refine VC.skip_to (fun _ _ h => h) ?_
    refine VC.seq ?_
    refine VC.block ?_
    refine VC.draw [(0, true), (1, true), (2, true), (3, true), (4, true), (5, true), (6, true), (7, true), (8, true), (9, true), (10, true), (11, true), (12, true), (13, true), (14, true), (15, true), (16, true), (17, true), (18, true), (19, true), (20, true), (21, false), (22, false), (23, true), (24, false)] mixed (by kernel_rfl) (by kernel_rfl) (by kernel_rfl) ?_
    refine VD.q rfl (q_field gfa33_2 rfl) (by decide) ?_
    refine VD.q rfl (q_fe gone31 rfl rfl) (by decide) ?_
    refine VD.q rfl (q_field gfa26_2 rfl) (by decide) ?_
    refine VD.q rfl (q_fe gone23 rfl rfl) (by decide) ?_
    refine VD.q rfl (q_move rfl) (by decide) ?_
    obtain ⟨z31_6, nz31_6, hz31_6, hS⟩ := at_s hS
    refine VD.q rfl (q_ixm (s := o_0.items) Tryd.underlying23 gsz82 rfl rfl nz31_6 (lt_of_get nz31_6 hz31_6)) (by decide) ?_
    refine VD.q rfl (q_field gfa82_0 rfl) (by decide) ?_
    refine VD.q rfl (q_elf (s := o_0.items) gone9 rfl hz31_6 rfl) (by decide) ?_
    refine VD.q rfl (q_field gfa26_2 rfl) (by decide) ?_
    refine VD.q rfl (q_fe gone23 rfl rfl) (by decide) ?_
    refine VD.q rfl (q_move rfl) (by decide) ?_
    obtain ⟨z37_7, nz37_7, hz37_7, hS⟩ := at_s hS
    refine VD.q rfl (q_ixm (s := o_0.items) Tryd.underlying23 gsz82 rfl rfl nz37_7 (lt_of_get nz37_7 hz37_7)) (by decide) ?_
    refine VD.q rfl (q_field gfa82_1 rfl) (by decide) ?_
    refine VD.q rfl (q_elf (s := o_0.items) gone3 rfl hz37_7 rfl) (by decide) ?_
    refine VD.q rfl (q_field gfa26_2 rfl) (by decide) ?_
    refine VD.q rfl (q_fe gone23 rfl rfl) (by decide) ?_
    refine VD.q rfl (q_move rfl) (by decide) ?_
    obtain ⟨z43_8, nz43_8, hz43_8, hS⟩ := at_s hS
    refine VD.q rfl (q_ixm (s := o_0.items) Tryd.underlying23 gsz82 rfl rfl nz43_8 (lt_of_get nz43_8 hz43_8)) (by decide) ?_
    refine VD.q rfl (q_field gfa82_2 rfl) (by decide) ?_
    refine VD.q rfl (q_elf (s := o_0.items) gone3 rfl hz43_8 rfl) (by decide) ?_
    refine VD.q rfl (q_build (vs := [(0, str z31_6.path), (1, i64 z37_7.mode), (2, i64 z43_8.blob)]) (cs := #[str z31_6.path, i64 z37_7.mode, i64 z43_8.blob]) rfl (by kernel_rfl)) (by decide) ?_
    refine VD.one rfl ?_
    refine VL.lit (α := Rectoref7Item) (xs := [.tmp 46]) (vs := [.agg #[str z31_6.path, i64 z37_7.mode, i64 z43_8.blob]]) [⟨z31_6.path, z37_7.mode, z43_8.blob⟩] Tryd.underlying31 glit91 (by decide) rfl rfl rfl rfl (by decide) (fun _ _ _ _ => trivial) (by decide) (fun s47_9 hs47_9 => ?_) (by decide)
    replace hS := lt_to hs47_9 hS
    refine VL.back (D' := [(1, c2_5.val), (0, ptr b3_3 2)]) (by kernel_rfl) (Pend.cons rfl (q_fe gone31 rfl rfl) (Pend.cons rfl (q_field gfa33_2 rfl) (Pend.nil))) ?_
    refine VD.one rfl ?_
    obtain ⟨b48, hS⟩ := gd_s hS
    refine VL.app (s := c2_5) (r := s47_9) Tryd.underlying31 gapp91 (by decide) rfl Fo.out (ap1 b48) (ap2 b48 (by decide)) (by decide) (fun s48_11 hs48_11 => ?_)
    replace hS := lt_to hs48_11 hS
    refine VL.back (D' := []) (by kernel_rfl) (Pend.nil) ?_
    refine VD.q rfl (q_field gfa33_2 rfl) (by decide) ?_
    refine VD.one rfl ?_
    refine VL.store (vc := [s48_11.val]) (cs' := [i64 o_0.kind, str o_0.data.l, s48_11.val, i64 o_0.tree, o_0.parents.val, i64 o_0.time, str o_0.text]) rfl rfl rfl gsz31 rfl rfl (Nat.le_of_ble_eq_true rfl) rfl ?_
    refine VL.back (D' := []) (by kernel_rfl) (Pend.nil) ?_
    refine VD.to (fun _ _ h => h) ?_
    refine VC.keep [1, 2, 3, 4] rfl ?_
    refine VC.region ?_
    refine VL.q (q_move rfl) (by decide) ?_
    obtain ⟨b25, hS⟩ := gd_s hS
    refine VL.q (q_add rfl rfl b25) (by decide) ?_
    refine VL.q (q_assign rfl) (by decide) ?_
    refine VL.rnd ((i4_4 + 1), s48_11) [1, 2, 3, 4] (fun _ _ h => h) (go2 hS hK1) rfl
  ·
    replace hS := it_f h23 hS
    replace hS := up2 hS hK1
    refine VC.exit_to (fun _ _ h => h) ?_
    refine VC.seq ?_
    refine VC.region ?_
    refine VL.q (q_fes gagg33 rfl rfl) (by decide) ?_
    refine VL.store (vc := [i64 o_0.kind, str o_0.data.l, c2_5.val, i64 o_0.tree, o_0.parents.val, i64 o_0.time, str o_0.text]) (cs' := [i64 o_0.kind, str o_0.data.l, c2_5.val, i64 o_0.tree, o_0.parents.val, i64 o_0.time, str o_0.text]) rfl rfl rfl gsz33 rfl rfl (Nat.le_of_ble_eq_true rfl) rfl ?_
    refine VL.to (fun _ _ h => h) ?_
    refine VC.shut c2_5 91 (fun _ _ _ _ => trivial) ?_
    cases hS
    exact VC.ret (finG (vs := [.agg #[i64 o_0.kind, str o_0.data.l, c2_5.val, i64 o_0.tree, o_0.parents.val, i64 o_0.time, str o_0.text]]) (.inr rfl) rfl (RVs.cell gagg33 rfl rfl Rd.blk (RVs.nil)) ⟨o_0.kind, o_0.data.l, c2_5, o_0.tree, o_0.parents, o_0.time, o_0.text⟩ rfl rfl (by (try dsimp only); exact InM.out) (fun _ _ => trivial))

set_option maxHeartbeats 4000000 in
set_option maxRecDepth 100000 in
theorem rectoref7_Same_ct (a_0 : Rectoref7Object) (a_1 : Rectoref7Object) {r : Bool} (hS : Sh.rectoref7_Same a_0.pl a_1.pl = some r) :
    Ct Tryd.prog 12 [.agg #[i64 a_0.kind, str a_0.data, a_0.items.val, i64 a_0.tree, a_0.parents.val, i64 a_0.time, str a_0.text], .agg #[i64 a_1.kind, str a_1.data, a_1.items.val, i64 a_1.tree, a_1.parents.val, i64 a_1.time, str a_1.text]] (a_0.items.ok.and (a_0.parents.ok.and (a_1.items.ok.and a_1.parents.ok))) (Ow.emp) (X := Unit) (fun _ => .bool r) (fun _ => True) (fun _ => Mo.tt) (fun _ => Ow.emp) := by
  refine Ct.of Tryd.func12 rfl (by kernel_rfl) Tryd.ntmps12 (by simp) fun c => ?_
  unfold Sh.rectoref7_Same at hS
  refine VC.seq ?_
  refine VC.region ?_
  refine VL.box (cs := [i64 a_0.kind, str a_0.data, a_0.items.val, i64 a_0.tree, a_0.parents.val, i64 a_0.time, str a_0.text]) rfl rfl (by decide) fun b2_1 => ?_
  refine VL.box (cs := [i64 a_1.kind, str a_1.data, a_1.items.val, i64 a_1.tree, a_1.parents.val, i64 a_1.time, str a_1.text]) rfl rfl (by decide) fun b3_2 => ?_
  refine VL.q (q_assign rfl) (by decide) ?_
  refine VL.to (fun _ _ h => h) ?_
  refine VC.seq ?_
  refine VC.seq ?_
  refine VC.region ?_
  refine VL.q (q_field gfa33_0 rfl) (by decide) ?_
  refine VL.q (q_fe gone3 rfl rfl) (by decide) ?_
  refine VL.q (q_field gfa33_0 rfl) (by decide) ?_
  refine VL.q (q_fe gone3 rfl rfl) (by decide) ?_
  refine VL.q (q_neq rfl rfl) (by decide) ?_
  refine VL.to (fun _ _ h => h) ?_
  refine VC.cond_ndec rfl (fun h11 => ?_) (fun h11 => ?_)
  ·
    replace hS := it_f h11 hS
    refine VC.seq ?_
    refine VC.region ?_
    refine VL.q (q_assign rfl) (by decide) ?_
    refine VL.to (fun _ _ h => h) ?_
    cases hS
    exact VC.ret (fin1 (.inr rfl) rfl rfl () rfl trivial (fun _ _ => trivial) (fun _ _ => trivial))
  ·
    replace hS := it_t h11 hS
    refine VC.skip_to (fun _ _ h => h) ?_
    refine VC.seq ?_
    refine VC.seq ?_
    refine VC.region ?_
    refine VL.q (q_field gfa33_0 rfl) (by decide) ?_
    refine VL.q (q_fe gone3 rfl rfl) (by decide) ?_
    refine VL.to (fun _ _ h => h) ?_
    refine VC.keep [2, 3, 13] rfl ?_
    refine VC.block ?_
    refine VC.seq ?_
    refine VC.region ?_
    refine VL.q (q_eql rfl rfl) (by decide) ?_
    refine VL.q (q_assign rfl) (by decide) ?_
    refine VL.to (fun _ _ h => h) ?_
    refine VC.cond_dec rfl (fun h14 => ?_) (fun h14 => ?_)
    ·
      replace hS := it_t h14 hS
      refine VC.seq ?_
      refine VC.region ?_
      refine VL.q (q_field gfa33_1 rfl) (by decide) ?_
      refine VL.q (q_fe gone9 rfl rfl) (by decide) ?_
      refine VL.q (q_field gfa33_1 rfl) (by decide) ?_
      refine VL.q (q_fe gone9 rfl rfl) (by decide) ?_
      refine VL.q (q_seq rfl rfl) (by decide) ?_
      refine VL.q (q_assign rfl) (by decide) ?_
      refine VL.to (fun _ _ h => h) ?_
      refine VC.keep [4] rfl ?_
      cases hS
      exact VC.ret (fin1 (.inr rfl) rfl rfl () rfl trivial (fun _ _ => trivial) (fun _ _ => trivial))
    ·
      replace hS := it_f h14 hS
      refine VC.seq ?_
      refine VC.region ?_
      refine VL.q (q_eql rfl rfl) (by decide) ?_
      refine VL.q (q_assign rfl) (by decide) ?_
      refine VL.to (fun _ _ h => h) ?_
      refine VC.cond_dec rfl (fun h21 => ?_) (fun h21 => ?_)
      ·
        replace hS := it_t h21 hS
        refine VC.seq ?_
        refine VC.seq ?_
        refine VC.region ?_
        refine VL.q (q_field gfa33_2 rfl) (by decide) ?_
        refine VL.q (q_fe gone31 rfl rfl) (by decide) ?_
        refine VL.q (q_ln (s := a_0.items) Tryd.underlying31 rfl) (by decide) ?_
        refine VL.q (q_field gfa33_2 rfl) (by decide) ?_
        refine VL.q (q_fe gone31 rfl rfl) (by decide) ?_
        refine VL.q (q_ln (s := a_1.items) Tryd.underlying31 rfl) (by decide) ?_
        refine VL.q (q_neq rfl rfl) (by decide) ?_
        refine VL.to (fun _ _ h => h) ?_
        refine VC.keep [2, 3, 29] rfl ?_
        refine VC.cond_ndec rfl (fun h29 => ?_) (fun h29 => ?_)
        ·
          replace hS := it_f h29 hS
          refine VC.seq ?_
          refine VC.region ?_
          refine VL.q (q_assign rfl) (by decide) ?_
          refine VL.to (fun _ _ h => h) ?_
          cases hS
          exact VC.ret (fin1 (.inr rfl) rfl rfl () rfl trivial (fun _ _ => trivial) (fun _ _ => trivial))
        ·
          replace hS := it_t h29 hS
          refine VC.skip_to (fun _ _ h => h) ?_
          refine VC.seq ?_
          refine VC.seq ?_
          refine VC.region ?_
          refine VL.q (q_assign rfl) (by decide) ?_
          refine VL.to (fun _ _ h => h) ?_
          refine VC.block ?_
          refine VC.iter (S := Int) (fun (x5_3 : Int) => x5_3) (fun (x5_3 : Int) => [(2, ptr b2_1 0), (3, ptr b3_2 0), (5, i64 x5_3)]) (fun (x5_3 : Int) => Mo.tt) (fun (x5_3 : Int) => Ow.star (Blk b3_2 [i64 a_1.kind, str a_1.data, a_1.items.val, i64 a_1.tree, a_1.parents.val, i64 a_1.time, str a_1.text] 33) (Ow.star (Blk b2_1 [i64 a_0.kind, str a_0.data, a_0.items.val, i64 a_0.tree, a_0.parents.val, i64 a_0.time, str a_0.text] 33) (Ow.emp))) 0 [2, 3, 5] hS rfl ?_
          clear hS
          rintro x5_3 m1 y1 hS hK1
          show VC _ _ _ _ _ [(2, ptr b2_1 0), (3, ptr b3_2 0), (5, i64 x5_3)] (Mo.and Mo.tt _) (Ow.star (Blk b3_2 [i64 a_1.kind, str a_1.data, a_1.items.val, i64 a_1.tree, a_1.parents.val, i64 a_1.time, str a_1.text] 33) (Ow.star (Blk b2_1 [i64 a_0.kind, str a_0.data, a_0.items.val, i64 a_0.tree, a_0.parents.val, i64 a_0.time, str a_0.text] 33) (Ow.emp)))
          refine VC.seq ?_
          refine VC.seq ?_
          refine VC.region ?_
          refine VL.q (q_move rfl) (by decide) ?_
          refine VL.q (q_field gfa33_2 rfl) (by decide) ?_
          refine VL.q (q_fe gone31 rfl rfl) (by decide) ?_
          refine VL.q (q_ln (s := a_0.items) Tryd.underlying31 rfl) (by decide) ?_
          refine VL.q (q_lss rfl rfl) (by decide) ?_
          refine VL.to (fun _ _ h => h) ?_
          refine VC.cond_dec rfl (fun h34 => ?_) (fun h34 => ?_)
          ·
            replace hS := it_t h34 hS
            refine VC.skip_to (fun _ _ h => h) ?_
            refine VC.seq ?_
            refine VC.block ?_
            refine VC.seq ?_
            refine VC.draw ((List.range 11).map fun k => (k, true)) mixed (by kernel_rfl) (by kernel_rfl) (by kernel_rfl) ?_
            refine VD.q rfl (q_field gfa33_2 rfl) (by decide) ?_
            refine VD.q rfl (q_fe gone31 rfl rfl) (by decide) ?_
            refine VD.q rfl (q_move rfl) (by decide) ?_
            obtain ⟨z40_4, nz40_4, hz40_4, hS⟩ := at_s hS
            refine VD.q rfl (q_ixm (s := a_0.items) Tryd.underlying31 gsz91 rfl rfl nz40_4 (lt_of_get nz40_4 hz40_4)) (by decide) ?_
            refine VD.q rfl (q_els (s := a_0.items) gagg91 rfl rfl hz40_4) (by decide) ?_
            refine VD.q rfl (q_field gfa33_2 rfl) (by decide) ?_
            refine VD.q rfl (q_fe gone31 rfl rfl) (by decide) ?_
            refine VD.q rfl (q_move rfl) (by decide) ?_
            obtain ⟨z45_5, nz45_5, hz45_5, hS⟩ := at_s hS
            refine VD.q rfl (q_ixm (s := a_1.items) Tryd.underlying31 gsz91 rfl rfl nz45_5 (lt_of_get nz45_5 hz45_5)) (by decide) ?_
            refine VD.q rfl (q_els (s := a_1.items) gagg91 rfl rfl hz45_5) (by decide) ?_
            refine VD.q rfl (q_stneq geqg91 (geqs91 z40_4.path z40_4.mode z40_4.blob z45_5.path z45_5.mode z45_5.blob) rfl rfl) (by decide) ?_
            refine VD.to (fun _ _ h => h) ?_
            refine VC.keep [2, 3, 5, 47] rfl ?_
            refine VC.cond_ndec rfl (fun h47 => ?_) (fun h47 => ?_)
            ·
              replace hS := it_f h47 hS
              refine VC.seq ?_
              refine VC.region ?_
              refine VL.q (q_assign rfl) (by decide) ?_
              refine VL.to (fun _ _ h => h) ?_
              replace hS := up2 hS hK1
              cases hS
              exact VC.ret (fin1 (.inr rfl) rfl rfl () rfl trivial (fun _ _ => trivial) (fun _ _ => trivial))
            ·
              replace hS := it_t h47 hS
              refine VC.skip_to (fun _ _ h => h) ?_
              refine VC.region ?_
              refine VL.q (q_move rfl) (by decide) ?_
              obtain ⟨b36, hS⟩ := gd_s hS
              refine VL.q (q_add rfl rfl b36) (by decide) ?_
              refine VL.q (q_assign rfl) (by decide) ?_
              refine VL.rnd (x5_3 + 1) [2, 3, 5] (fun _ _ h => h) (go2 hS hK1) rfl
          ·
            replace hS := it_f h34 hS
            replace hS := up2 hS hK1
            refine VC.exit_to (fun _ _ h => h) ?_
            refine VC.seq ?_
            refine VC.region ?_
            refine VL.q (q_assign rfl) (by decide) ?_
            refine VL.to (fun _ _ h => h) ?_
            cases hS
            exact VC.ret (fin1 (.inr rfl) rfl rfl () rfl trivial (fun _ _ => trivial) (fun _ _ => trivial))
      ·
        replace hS := it_f h21 hS
        refine VC.seq ?_
        refine VC.region ?_
        refine VL.q (q_eql rfl rfl) (by decide) ?_
        refine VL.q (q_assign rfl) (by decide) ?_
        refine VL.to (fun _ _ h => h) ?_
        refine VC.cond_dec rfl (fun h48 => ?_) (fun h48 => ?_)
        ·
          replace hS := it_t h48 hS
          refine VC.seq ?_
          refine VC.cutJ (S := Bool) (fun (x77_6 : Bool) => x77_6) (fun (x77_6 : Bool) => [(2, ptr b2_1 0), (3, ptr b3_2 0), (77, .bool x77_6)]) (fun (x77_6 : Bool) => Mo.tt) (fun (x77_6 : Bool) => Ow.star (Blk b3_2 [i64 a_1.kind, str a_1.data, a_1.items.val, i64 a_1.tree, a_1.parents.val, i64 a_1.time, str a_1.text] 33) (Ow.star (Blk b2_1 [i64 a_0.kind, str a_0.data, a_0.items.val, i64 a_0.tree, a_0.parents.val, i64 a_0.time, str a_0.text] 33) (Ow.emp))) hS ?_ ?_
          · -- up to where ways meet
            clear hS
            intro k7 hS
            refine VC.region ?_
            refine VL.q (q_field gfa33_3 rfl) (by decide) ?_
            refine VL.q (q_fe gone3 rfl rfl) (by decide) ?_
            refine VL.q (q_field gfa33_3 rfl) (by decide) ?_
            refine VL.q (q_fe gone3 rfl rfl) (by decide) ?_
            refine VL.q (q_neq rfl rfl) (by decide) ?_
            refine VL.q (q_move rfl) (by decide) ?_
            refine VL.split_ndec 55 rfl (fun h55 => ?_) (fun h55 => ?_)
            ·
              replace hS := it_f h55 hS
              refine VL.gn rfl rfl rfl (by decide) ?_
              refine VL.gn rfl rfl rfl (by decide) ?_
              refine VL.gn rfl rfl rfl (by decide) ?_
              refine VL.gn rfl rfl rfl (by decide) ?_
              refine VL.gn rfl rfl rfl (by decide) ?_
              refine VL.gn rfl rfl rfl (by decide) ?_
              refine VL.gn rfl rfl rfl (by decide) ?_
              refine VL.q (q_pick_t rfl rfl) (by decide) ?_
              refine VL.q (q_move rfl) (by decide) ?_
              refine VL.gn rfl rfl rfl (by decide) ?_
              refine VL.gn rfl rfl rfl (by decide) ?_
              refine VL.gn rfl rfl rfl (by decide) ?_
              refine VL.gn rfl rfl rfl (by decide) ?_
              refine VL.gn rfl rfl rfl (by decide) ?_
              refine VL.q (q_pick_t rfl rfl) (by decide) ?_
              refine VL.q (q_move rfl) (by decide) ?_
              refine VL.gn rfl rfl rfl (by decide) ?_
              refine VL.gn rfl rfl rfl (by decide) ?_
              refine VL.gn rfl rfl rfl (by decide) ?_
              refine VL.gn rfl rfl rfl (by decide) ?_
              refine VL.gn rfl rfl rfl (by decide) ?_
              refine VL.q (q_pick_t rfl rfl) (by decide) ?_
              refine VL.mt true [2, 3, 77] (fun _ _ h => h) hS rfl
            ·
              replace hS := it_t h55 hS
              refine VL.gy rfl rfl (q_field gfa33_4 rfl) (by decide) ?_
              refine VL.gy rfl rfl (q_fe gone24 rfl rfl) (by decide) ?_
              refine VL.gy rfl rfl (q_ln (s := a_0.parents) Tryd.underlying24 rfl) (by decide) ?_
              refine VL.gy rfl rfl (q_field gfa33_4 rfl) (by decide) ?_
              refine VL.gy rfl rfl (q_fe gone24 rfl rfl) (by decide) ?_
              refine VL.gy rfl rfl (q_ln (s := a_1.parents) Tryd.underlying24 rfl) (by decide) ?_
              refine VL.gy rfl rfl (q_neq rfl rfl) (by decide) ?_
              refine VL.q (q_pick_f rfl rfl) (by decide) ?_
              refine VL.q (q_move rfl) (by decide) ?_
              refine VL.split_ndec 64 rfl (fun h64 => ?_) (fun h64 => ?_)
              ·
                replace hS := it_f h64 hS
                refine VL.gn rfl rfl rfl (by decide) ?_
                refine VL.gn rfl rfl rfl (by decide) ?_
                refine VL.gn rfl rfl rfl (by decide) ?_
                refine VL.gn rfl rfl rfl (by decide) ?_
                refine VL.gn rfl rfl rfl (by decide) ?_
                refine VL.q (q_pick_t rfl rfl) (by decide) ?_
                refine VL.q (q_move rfl) (by decide) ?_
                refine VL.gn rfl rfl rfl (by decide) ?_
                refine VL.gn rfl rfl rfl (by decide) ?_
                refine VL.gn rfl rfl rfl (by decide) ?_
                refine VL.gn rfl rfl rfl (by decide) ?_
                refine VL.gn rfl rfl rfl (by decide) ?_
                refine VL.q (q_pick_t rfl rfl) (by decide) ?_
                refine VL.mt true [2, 3, 77] (fun _ _ h => h) hS rfl
              ·
                replace hS := it_t h64 hS
                refine VL.gy rfl rfl (q_field gfa33_5 rfl) (by decide) ?_
                refine VL.gy rfl rfl (q_fe gone3 rfl rfl) (by decide) ?_
                refine VL.gy rfl rfl (q_field gfa33_5 rfl) (by decide) ?_
                refine VL.gy rfl rfl (q_fe gone3 rfl rfl) (by decide) ?_
                refine VL.gy rfl rfl (q_neq rfl rfl) (by decide) ?_
                refine VL.q (q_pick_f rfl rfl) (by decide) ?_
                refine VL.q (q_move rfl) (by decide) ?_
                refine VL.split_ndec 71 rfl (fun h71 => ?_) (fun h71 => ?_)
                ·
                  replace hS := it_f h71 hS
                  refine VL.gn rfl rfl rfl (by decide) ?_
                  refine VL.gn rfl rfl rfl (by decide) ?_
                  refine VL.gn rfl rfl rfl (by decide) ?_
                  refine VL.gn rfl rfl rfl (by decide) ?_
                  refine VL.gn rfl rfl rfl (by decide) ?_
                  refine VL.q (q_pick_t rfl rfl) (by decide) ?_
                  refine VL.mt true [2, 3, 77] (fun _ _ h => h) hS rfl
                ·
                  replace hS := it_t h71 hS
                  refine VL.gy rfl rfl (q_field gfa33_6 rfl) (by decide) ?_
                  refine VL.gy rfl rfl (q_fe gone9 rfl rfl) (by decide) ?_
                  refine VL.gy rfl rfl (q_field gfa33_6 rfl) (by decide) ?_
                  refine VL.gy rfl rfl (q_fe gone9 rfl rfl) (by decide) ?_
                  refine VL.gy rfl rfl (q_sne rfl rfl) (by decide) ?_
                  refine VL.q (q_pick_f rfl rfl) (by decide) ?_
                  refine VL.mt (!decide (a_0.text = a_1.text)) [2, 3, 77] (fun _ _ h => h) hS rfl
          · -- from there
            clear hS
            rintro x77_6 hS
            show VC _ _ _ _ _ [(2, ptr b2_1 0), (3, ptr b3_2 0), (77, .bool x77_6)] (Mo.and Mo.tt _) (Ow.star (Blk b3_2 [i64 a_1.kind, str a_1.data, a_1.items.val, i64 a_1.tree, a_1.parents.val, i64 a_1.time, str a_1.text] 33) (Ow.star (Blk b2_1 [i64 a_0.kind, str a_0.data, a_0.items.val, i64 a_0.tree, a_0.parents.val, i64 a_0.time, str a_0.text] 33) (Ow.emp)))
            refine VC.cond rfl (fun h77 => ?_) (fun h77 => ?_)
            ·
              replace hS := it_t h77 hS
              refine VC.seq ?_
              refine VC.region ?_
              refine VL.q (q_assign rfl) (by decide) ?_
              refine VL.to (fun _ _ h => h) ?_
              cases hS
              exact VC.ret (fin1 (.inr rfl) rfl rfl () rfl trivial (fun _ _ => trivial) (fun _ _ => trivial))
            ·
              replace hS := it_b h77 hS
              refine VC.skip_to (fun _ _ h => h) ?_
              refine VC.seq ?_
              refine VC.region ?_
              refine VL.q (q_assign rfl) (by decide) ?_
              refine VL.to (fun _ _ h => h) ?_
              refine VC.block ?_
              refine VC.iter (S := Int) (fun (x6_8 : Int) => x6_8) (fun (x6_8 : Int) => [(2, ptr b2_1 0), (3, ptr b3_2 0), (6, i64 x6_8)]) (fun (x6_8 : Int) => Mo.tt) (fun (x6_8 : Int) => Ow.star (Blk b3_2 [i64 a_1.kind, str a_1.data, a_1.items.val, i64 a_1.tree, a_1.parents.val, i64 a_1.time, str a_1.text] 33) (Ow.star (Blk b2_1 [i64 a_0.kind, str a_0.data, a_0.items.val, i64 a_0.tree, a_0.parents.val, i64 a_0.time, str a_0.text] 33) (Ow.emp))) 0 [2, 3, 6] hS rfl ?_
              clear hS
              rintro x6_8 m1 y1 hS hK1
              show VC _ _ _ _ _ [(2, ptr b2_1 0), (3, ptr b3_2 0), (6, i64 x6_8)] (Mo.and Mo.tt _) (Ow.star (Blk b3_2 [i64 a_1.kind, str a_1.data, a_1.items.val, i64 a_1.tree, a_1.parents.val, i64 a_1.time, str a_1.text] 33) (Ow.star (Blk b2_1 [i64 a_0.kind, str a_0.data, a_0.items.val, i64 a_0.tree, a_0.parents.val, i64 a_0.time, str a_0.text] 33) (Ow.emp)))
              refine VC.seq ?_
              refine VC.seq ?_
              refine VC.region ?_
              refine VL.q (q_move rfl) (by decide) ?_
              refine VL.q (q_field gfa33_4 rfl) (by decide) ?_
              refine VL.q (q_fe gone24 rfl rfl) (by decide) ?_
              refine VL.q (q_ln (s := a_0.parents) Tryd.underlying24 rfl) (by decide) ?_
              refine VL.q (q_lss rfl rfl) (by decide) ?_
              refine VL.to (fun _ _ h => h) ?_
              refine VC.cond_dec rfl (fun h82 => ?_) (fun h82 => ?_)
              ·
                replace hS := it_t h82 hS
                refine VC.skip_to (fun _ _ h => h) ?_
                refine VC.seq ?_
                refine VC.block ?_
                refine VC.seq ?_
                refine VC.draw ((List.range 11).map fun k => (k, true)) mixed (by kernel_rfl) (by kernel_rfl) (by kernel_rfl) ?_
                refine VD.q rfl (q_field gfa33_4 rfl) (by decide) ?_
                refine VD.q rfl (q_fe gone24 rfl rfl) (by decide) ?_
                refine VD.q rfl (q_move rfl) (by decide) ?_
                obtain ⟨z88_9, nz88_9, hz88_9, hS⟩ := at_s hS
                refine VD.q rfl (q_ixm (s := a_0.parents) Tryd.underlying24 gsz3 rfl rfl nz88_9 (lt_of_get nz88_9 hz88_9)) (by decide) ?_
                refine VD.q rfl (q_el (s := a_0.parents) gone3 rfl hz88_9 rfl) (by decide) ?_
                refine VD.q rfl (q_field gfa33_4 rfl) (by decide) ?_
                refine VD.q rfl (q_fe gone24 rfl rfl) (by decide) ?_
                refine VD.q rfl (q_move rfl) (by decide) ?_
                obtain ⟨z93_10, nz93_10, hz93_10, hS⟩ := at_s hS
                refine VD.q rfl (q_ixm (s := a_1.parents) Tryd.underlying24 gsz3 rfl rfl nz93_10 (lt_of_get nz93_10 hz93_10)) (by decide) ?_
                refine VD.q rfl (q_el (s := a_1.parents) gone3 rfl hz93_10 rfl) (by decide) ?_
                refine VD.q rfl (q_neq rfl rfl) (by decide) ?_
                refine VD.to (fun _ _ h => h) ?_
                refine VC.keep [2, 3, 6, 95] rfl ?_
                refine VC.cond_ndec rfl (fun h95 => ?_) (fun h95 => ?_)
                ·
                  replace hS := it_f h95 hS
                  refine VC.seq ?_
                  refine VC.region ?_
                  refine VL.q (q_assign rfl) (by decide) ?_
                  refine VL.to (fun _ _ h => h) ?_
                  replace hS := up2 hS hK1
                  cases hS
                  exact VC.ret (fin1 (.inr rfl) rfl rfl () rfl trivial (fun _ _ => trivial) (fun _ _ => trivial))
                ·
                  replace hS := it_t h95 hS
                  refine VC.skip_to (fun _ _ h => h) ?_
                  refine VC.region ?_
                  refine VL.q (q_move rfl) (by decide) ?_
                  obtain ⟨b84, hS⟩ := gd_s hS
                  refine VL.q (q_add rfl rfl b84) (by decide) ?_
                  refine VL.q (q_assign rfl) (by decide) ?_
                  refine VL.rnd (x6_8 + 1) [2, 3, 6] (fun _ _ h => h) (go2 hS hK1) rfl
              ·
                replace hS := it_f h82 hS
                replace hS := up2 hS hK1
                refine VC.exit_to (fun _ _ h => h) ?_
                refine VC.seq ?_
                refine VC.region ?_
                refine VL.q (q_assign rfl) (by decide) ?_
                refine VL.to (fun _ _ h => h) ?_
                cases hS
                exact VC.ret (fin1 (.inr rfl) rfl rfl () rfl trivial (fun _ _ => trivial) (fun _ _ => trivial))
        ·
          replace hS := it_f h48 hS
          refine VC.skip_to (fun _ _ h => h) ?_
          refine VC.seq ?_
          refine VC.region ?_
          refine VL.q (q_assign rfl) (by decide) ?_
          refine VL.to (fun _ _ h => h) ?_
          cases hS
          exact VC.ret (fin1 (.inr rfl) rfl rfl () rfl trivial (fun _ _ => trivial) (fun _ _ => trivial))

set_option maxHeartbeats 4000000 in
set_option maxRecDepth 100000 in
theorem rectolaw7_ObjectTwo_ct (a_0 : ObjectObject) (b_1 : ObjectObject) {r : Bool} (hS : Sh.rectolaw7_ObjectTwo a_0.pl b_1.pl = some r) :
    Ct Tryd.prog 3 [.agg #[i64 a_0.kind, a_0.data.val, a_0.items.val, i64 a_0.tree, a_0.parents.val, i64 a_0.time, str a_0.text], .agg #[i64 b_1.kind, b_1.data.val, b_1.items.val, i64 b_1.tree, b_1.parents.val, i64 b_1.time, str b_1.text]] (a_0.data.ok.and (a_0.items.ok.and (a_0.parents.ok.and (b_1.data.ok.and (b_1.items.ok.and b_1.parents.ok))))) (Ow.emp) (X := Unit) (fun _ => .bool r) (fun _ => True) (fun _ => Mo.tt) (fun _ => Ow.emp) := by
  refine Ct.of Tryd.func3 rfl (by kernel_rfl) Tryd.ntmps3 (by simp) fun c => ?_
  unfold Sh.rectolaw7_ObjectTwo at hS
  refine VC.seq ?_
  refine VC.region ?_
  refine VL.box (cs := [i64 a_0.kind, a_0.data.val, a_0.items.val, i64 a_0.tree, a_0.parents.val, i64 a_0.time, str a_0.text]) rfl rfl (by decide) fun b2_1 => ?_
  refine VL.box (cs := [i64 b_1.kind, b_1.data.val, b_1.items.val, i64 b_1.tree, b_1.parents.val, i64 b_1.time, str b_1.text]) rfl rfl (by decide) fun b3_2 => ?_
  refine VL.q (q_assign rfl) (by decide) ?_
  refine VL.to (fun _ _ h => h) ?_
  refine VC.seq ?_
  refine VC.seq ?_
  refine VC.region ?_
  obtain ⟨y6_3, ey6_3, hS⟩ := bd_s hS
  refine VL.q (q_call (rectolaw7_known_ct ey6_3) rfl (fun _ _ => rfl)) (by decide) ?_
  refine VL.q (q_not rfl) (by decide) ?_
  refine VL.to (fun _ _ h => h) ?_
  refine VC.cond rfl (fun h7 => ?_) (fun h7 => ?_)
  ·
    replace hS := it_t h7 hS
    refine VC.seq ?_
    refine VC.region ?_
    refine VL.q (q_assign rfl) (by decide) ?_
    refine VL.to (fun _ _ h => h) ?_
    cases hS
    exact VC.ret (fin1 (.inr rfl) rfl rfl () rfl trivial (fun _ _ => trivial) (fun _ _ => trivial))
  ·
    replace hS := it_b h7 hS
    refine VC.skip_to (fun _ _ h => h) ?_
    refine VC.seq ?_
    refine VC.cutJ (S := Bool) (fun (x15_4 : Bool) => x15_4) (fun (x15_4 : Bool) => [(2, ptr b2_1 0), (3, ptr b3_2 0), (15, .bool x15_4)]) (fun (x15_4 : Bool) => Mo.tt) (fun (x15_4 : Bool) => Ow.star (Blk b3_2 [i64 b_1.kind, b_1.data.val, b_1.items.val, i64 b_1.tree, b_1.parents.val, i64 b_1.time, str b_1.text] 26) (Ow.star (Blk b2_1 [i64 a_0.kind, a_0.data.val, a_0.items.val, i64 a_0.tree, a_0.parents.val, i64 a_0.time, str a_0.text] 26) (Ow.emp))) hS ?_ ?_
    · -- up to where ways meet
      clear hS
      intro k5 hS
      refine VC.region ?_
      refine VL.q (q_fes gagg26 rfl rfl) (by decide) ?_
      obtain ⟨y9_6, ey9_6, hS⟩ := bd_s hS
      refine VL.q (q_call (rectolaw7_Few_ct a_0 ey9_6) rfl (fun _ _ => rfl)) (by decide) ?_
      refine VL.q (q_not rfl) (by decide) ?_
      refine VL.q (q_move rfl) (by decide) ?_
      refine VL.split 11 rfl (fun h11 => ?_) (fun h11 => ?_)
      ·
        replace hS := it_t h11 hS
        refine VL.gn rfl rfl rfl (by decide) ?_
        refine VL.gn rfl rfl rfl (by decide) ?_
        refine VL.gn rfl rfl rfl (by decide) ?_
        refine VL.q (q_pick_t rfl rfl) (by decide) ?_
        refine VL.mt true [2, 3, 15] (fun _ _ h => h) hS rfl
      ·
        replace hS := it_b h11 hS
        refine VL.gy rfl rfl (q_fes gagg26 rfl rfl) (by decide) ?_
        obtain ⟨y13_7, ey13_7, hS⟩ := bd_s hS
        refine VL.gy rfl rfl (q_call (rectolaw7_Few_ct b_1 ey13_7) rfl (fun _ _ => rfl)) (by decide) ?_
        refine VL.gy rfl rfl (q_not rfl) (by decide) ?_
        refine VL.q (q_pick_f rfl rfl) (by decide) ?_
        refine VL.mt (!y13_7) [2, 3, 15] (fun _ _ h => h) hS rfl
    · -- from there
      clear hS
      rintro x15_4 hS
      show VC _ _ _ _ _ [(2, ptr b2_1 0), (3, ptr b3_2 0), (15, .bool x15_4)] (Mo.and Mo.tt _) (Ow.star (Blk b3_2 [i64 b_1.kind, b_1.data.val, b_1.items.val, i64 b_1.tree, b_1.parents.val, i64 b_1.time, str b_1.text] 26) (Ow.star (Blk b2_1 [i64 a_0.kind, a_0.data.val, a_0.items.val, i64 a_0.tree, a_0.parents.val, i64 a_0.time, str a_0.text] 26) (Ow.emp)))
      refine VC.cond rfl (fun h15 => ?_) (fun h15 => ?_)
      ·
        replace hS := it_t h15 hS
        refine VC.seq ?_
        refine VC.region ?_
        refine VL.q (q_assign rfl) (by decide) ?_
        refine VL.to (fun _ _ h => h) ?_
        cases hS
        exact VC.ret (fin1 (.inr rfl) rfl rfl () rfl trivial (fun _ _ => trivial) (fun _ _ => trivial))
      ·
        replace hS := it_b h15 hS
        refine VC.skip_to (fun _ _ h => h) ?_
        refine VC.seq ?_
        refine VC.region ?_
        refine VL.q (q_fes gagg26 rfl rfl) (by decide) ?_
        refine VL.q (q_fes gagg26 rfl rfl) (by decide) ?_
        obtain ⟨y18_8, ey18_8, hS⟩ := bd_s hS
        refine VL.q (q_call (object_Same_ct a_0 b_1 ey18_8) rfl (fun _ _ => rfl)) (by decide) ?_
        refine VL.q (q_assign rfl) (by decide) ?_
        refine VL.to (fun _ _ h => h) ?_
        refine VC.seq ?_
        refine VC.seq ?_
        refine VC.region ?_
        refine VL.q (q_move rfl) (by decide) ?_
        refine VL.q (q_fes gagg26 rfl rfl) (by decide) ?_
        refine VL.q (q_fes gagg26 rfl rfl) (by decide) ?_
        obtain ⟨y22_9, ey22_9, hS⟩ := bd_s hS
        refine VL.q (q_call (object_Same_ct b_1 a_0 ey22_9) rfl (fun _ _ => rfl)) (by decide) ?_
        refine VL.q (q_bneq Tryd.underlying4 rfl rfl) (by decide) ?_
        refine VL.to (fun _ _ h => h) ?_
        refine VC.keep [2, 3, 5, 23] rfl ?_
        refine VC.cond_ndec rfl (fun h23 => ?_) (fun h23 => ?_)
        ·
          replace hS := it_f h23 hS
          refine VC.seq ?_
          refine VC.region ?_
          refine VL.q (q_assign rfl) (by decide) ?_
          refine VL.to (fun _ _ h => h) ?_
          cases hS
          exact VC.ret (fin1 (.inr rfl) rfl rfl () rfl trivial (fun _ _ => trivial) (fun _ _ => trivial))
        ·
          replace hS := it_t h23 hS
          refine VC.skip_to (fun _ _ h => h) ?_
          refine VC.seq ?_
          refine VC.draw [(0, true), (1, true), (2, true), (3, true), (4, true), (5, true), (6, true), (7, true), (8, true), (9, true), (10, true), (11, true), (12, true), (13, true), (14, true), (15, true), (16, true), (17, true), (18, true), (19, true), (20, true), (22, true), (21, false), (23, false), (24, true), (25, true), (26, true), (27, true)] mixed (by kernel_rfl) (by kernel_rfl) (by kernel_rfl) ?_
          refine VD.q rfl (q_field gfa26_0 rfl) (by decide) ?_
          refine VD.q rfl (q_fe gone3 rfl rfl) (by decide) ?_
          refine VD.q rfl (q_lss rfl rfl) (by decide) ?_
          refine VD.q rfl (q_move rfl) (by decide) ?_
          refine VD.split_dec 27 rfl (fun h27 => ?_) (fun h27 => ?_)
          ·
            replace hS := it_t h27 hS
            refine VD.gn rfl rfl rfl rfl (by decide) ?_
            refine VD.gn rfl rfl rfl rfl (by decide) ?_
            refine VD.gn rfl rfl rfl rfl (by decide) ?_
            refine VD.q rfl (q_pick_t rfl rfl) (by decide) ?_
            refine VD.q rfl (q_move rfl) (by decide) ?_
            refine VD.gn rfl rfl rfl rfl (by decide) ?_
            refine VD.gn rfl rfl rfl rfl (by decide) ?_
            refine VD.gn rfl rfl rfl rfl (by decide) ?_
            refine VD.q rfl (q_pick_t rfl rfl) (by decide) ?_
            refine VD.q rfl (q_move rfl) (by decide) ?_
            refine VD.gn rfl rfl rfl rfl (by decide) ?_
            refine VD.gn rfl rfl rfl rfl (by decide) ?_
            refine VD.gn rfl rfl rfl rfl (by decide) ?_
            refine VD.q rfl (q_pick_t rfl rfl) (by decide) ?_
            refine VD.q rfl (q_move rfl) (by decide) ?_
            refine VD.gn rfl rfl rfl rfl (by decide) ?_
            refine VD.gn rfl rfl rfl rfl (by decide) ?_
            refine VD.gn rfl rfl rfl rfl (by decide) ?_
            refine VD.oneN (D' := [(22, undef), (19, undef)]) rfl rfl rfl (by decide) (by decide) (by kernel_rfl) (Pend.consN rfl rfl rfl rfl (Pend.consN rfl rfl rfl rfl (Pend.nil))) ?_
            refine VD.oneN (D' := [(19, undef)]) rfl rfl rfl (by decide) (by decide) (by kernel_rfl) (Pend.consN rfl rfl rfl rfl (Pend.nil)) ?_
            refine VD.gn rfl rfl rfl rfl (by decide) ?_
            refine VD.gn rfl rfl rfl rfl (by decide) ?_
            refine VD.q rfl (q_pick_t rfl rfl) (by decide) ?_
            refine VD.q rfl (q_assign rfl) (by decide) ?_
            refine VD.to (fun _ _ h => h) ?_
            refine VC.keep [4] rfl ?_
            cases hS
            exact VC.ret (fin1 (.inr rfl) rfl rfl () rfl trivial (fun _ _ => trivial) (fun _ _ => trivial))
          ·
            replace hS := it_f h27 hS
            refine VD.gy rfl rfl rfl (q_field gfa26_0 rfl) (by decide) ?_
            refine VD.gy rfl rfl rfl (q_fe gone3 rfl rfl) (by decide) ?_
            refine VD.gy rfl rfl rfl (q_gtr rfl rfl) (by decide) ?_
            refine VD.q rfl (q_pick_f rfl rfl) (by decide) ?_
            refine VD.q rfl (q_move rfl) (by decide) ?_
            refine VD.split_dec 32 rfl (fun h32 => ?_) (fun h32 => ?_)
            ·
              replace hS := it_t h32 hS
              refine VD.gn rfl rfl rfl rfl (by decide) ?_
              refine VD.gn rfl rfl rfl rfl (by decide) ?_
              refine VD.gn rfl rfl rfl rfl (by decide) ?_
              refine VD.q rfl (q_pick_t rfl rfl) (by decide) ?_
              refine VD.q rfl (q_move rfl) (by decide) ?_
              refine VD.gn rfl rfl rfl rfl (by decide) ?_
              refine VD.gn rfl rfl rfl rfl (by decide) ?_
              refine VD.gn rfl rfl rfl rfl (by decide) ?_
              refine VD.q rfl (q_pick_t rfl rfl) (by decide) ?_
              refine VD.q rfl (q_move rfl) (by decide) ?_
              refine VD.gn rfl rfl rfl rfl (by decide) ?_
              refine VD.gn rfl rfl rfl rfl (by decide) ?_
              refine VD.gn rfl rfl rfl rfl (by decide) ?_
              refine VD.oneN (D' := [(22, undef), (19, undef)]) rfl rfl rfl (by decide) (by decide) (by kernel_rfl) (Pend.consN rfl rfl rfl rfl (Pend.consN rfl rfl rfl rfl (Pend.nil))) ?_
              refine VD.oneN (D' := [(19, undef)]) rfl rfl rfl (by decide) (by decide) (by kernel_rfl) (Pend.consN rfl rfl rfl rfl (Pend.nil)) ?_
              refine VD.gn rfl rfl rfl rfl (by decide) ?_
              refine VD.gn rfl rfl rfl rfl (by decide) ?_
              refine VD.q rfl (q_pick_t rfl rfl) (by decide) ?_
              refine VD.q rfl (q_assign rfl) (by decide) ?_
              refine VD.to (fun _ _ h => h) ?_
              refine VC.keep [4] rfl ?_
              cases hS
              exact VC.ret (fin1 (.inr rfl) rfl rfl () rfl trivial (fun _ _ => trivial) (fun _ _ => trivial))
            ·
              replace hS := it_f h32 hS
              refine VD.gy rfl rfl rfl (q_field gfa26_0 rfl) (by decide) ?_
              refine VD.gy rfl rfl rfl (q_fe gone3 rfl rfl) (by decide) ?_
              refine VD.gy rfl rfl rfl (q_lss rfl rfl) (by decide) ?_
              refine VD.q rfl (q_pick_f rfl rfl) (by decide) ?_
              refine VD.q rfl (q_move rfl) (by decide) ?_
              refine VD.split_dec 37 rfl (fun h37 => ?_) (fun h37 => ?_)
              ·
                replace hS := it_t h37 hS
                refine VD.gn rfl rfl rfl rfl (by decide) ?_
                refine VD.gn rfl rfl rfl rfl (by decide) ?_
                refine VD.gn rfl rfl rfl rfl (by decide) ?_
                refine VD.q rfl (q_pick_t rfl rfl) (by decide) ?_
                refine VD.q rfl (q_move rfl) (by decide) ?_
                refine VD.gn rfl rfl rfl rfl (by decide) ?_
                refine VD.gn rfl rfl rfl rfl (by decide) ?_
                refine VD.gn rfl rfl rfl rfl (by decide) ?_
                refine VD.oneN (D' := [(22, undef), (19, undef)]) rfl rfl rfl (by decide) (by decide) (by kernel_rfl) (Pend.consN rfl rfl rfl rfl (Pend.consN rfl rfl rfl rfl (Pend.nil))) ?_
                refine VD.oneN (D' := [(19, undef)]) rfl rfl rfl (by decide) (by decide) (by kernel_rfl) (Pend.consN rfl rfl rfl rfl (Pend.nil)) ?_
                refine VD.gn rfl rfl rfl rfl (by decide) ?_
                refine VD.gn rfl rfl rfl rfl (by decide) ?_
                refine VD.q rfl (q_pick_t rfl rfl) (by decide) ?_
                refine VD.q rfl (q_assign rfl) (by decide) ?_
                refine VD.to (fun _ _ h => h) ?_
                refine VC.keep [4] rfl ?_
                cases hS
                exact VC.ret (fin1 (.inr rfl) rfl rfl () rfl trivial (fun _ _ => trivial) (fun _ _ => trivial))
              ·
                replace hS := it_f h37 hS
                refine VD.gy rfl rfl rfl (q_field gfa26_0 rfl) (by decide) ?_
                refine VD.gy rfl rfl rfl (q_fe gone3 rfl rfl) (by decide) ?_
                refine VD.gy rfl rfl rfl (q_gtr rfl rfl) (by decide) ?_
                refine VD.q rfl (q_pick_f rfl rfl) (by decide) ?_
                refine VD.q rfl (q_move rfl) (by decide) ?_
                refine VD.split_dec 42 rfl (fun h42 => ?_) (fun h42 => ?_)
                ·
                  replace hS := it_t h42 hS
                  refine VD.gn rfl rfl rfl rfl (by decide) ?_
                  refine VD.gn rfl rfl rfl rfl (by decide) ?_
                  refine VD.gn rfl rfl rfl rfl (by decide) ?_
                  refine VD.oneN (D' := [(22, undef), (19, undef)]) rfl rfl rfl (by decide) (by decide) (by kernel_rfl) (Pend.consN rfl rfl rfl rfl (Pend.consN rfl rfl rfl rfl (Pend.nil))) ?_
                  refine VD.oneN (D' := [(19, undef)]) rfl rfl rfl (by decide) (by decide) (by kernel_rfl) (Pend.consN rfl rfl rfl rfl (Pend.nil)) ?_
                  refine VD.gn rfl rfl rfl rfl (by decide) ?_
                  refine VD.gn rfl rfl rfl rfl (by decide) ?_
                  refine VD.q rfl (q_pick_t rfl rfl) (by decide) ?_
                  refine VD.q rfl (q_assign rfl) (by decide) ?_
                  refine VD.to (fun _ _ h => h) ?_
                  refine VC.keep [4] rfl ?_
                  cases hS
                  exact VC.ret (fin1 (.inr rfl) rfl rfl () rfl trivial (fun _ _ => trivial) (fun _ _ => trivial))
                ·
                  replace hS := it_f h42 hS
                  refine VD.gy rfl rfl rfl (q_move rfl) (by decide) ?_
                  refine VD.gy rfl rfl rfl (q_fes gagg26 rfl rfl) (by decide) ?_
                  refine VD.gy rfl rfl rfl (q_fes gagg26 rfl rfl) (by decide) ?_
                  refine VD.oneG rfl rfl rfl ?_
                  refine VL.guard rfl rfl ?_
                  obtain ⟨y45_10, ey45_10, hS⟩ := bd_s hS
                  refine VL.callF (rectolaw7_Of_ct a_0 ey45_10) rfl (by decide) ?_
                  rintro q45_10_0 rfl
                  try dsimp only
                  refine VL.back (D' := [(22, .agg #[i64 b_1.kind, b_1.data.val, b_1.items.val, i64 b_1.tree, b_1.parents.val, i64 b_1.time, str b_1.text]), (19, .bool y18_8)]) (by kernel_rfl) (Pend.consG rfl rfl rfl (q_fes gagg26 rfl rfl) (Pend.consG rfl rfl rfl (q_move rfl) (Pend.nil))) ?_
                  refine VD.oneG rfl rfl rfl ?_
                  refine VL.guard rfl rfl ?_
                  obtain ⟨y47_11, ey47_11, hS⟩ := bd_s hS
                  refine VL.callF (rectolaw7_Of_ct b_1 ey47_11) rfl (by decide) ?_
                  rintro q47_11_0 rfl
                  try dsimp only
                  refine VL.back (D' := [(19, .bool y18_8)]) (by kernel_rfl) (Pend.consG rfl rfl rfl (q_move rfl) (Pend.nil)) ?_
                  obtain ⟨y48_12, ey48_12, hS⟩ := bd_s hS
                  refine VD.gy rfl rfl rfl (q_call (rectoref7_Same_ct q45_10_0 q47_11_0 ey48_12) rfl (fun _ _ => rfl)) (by decide) ?_
                  refine VD.gy rfl rfl rfl (q_beql Tryd.underlying4 rfl rfl) (by decide) ?_
                  refine VD.q rfl (q_pick_f rfl rfl) (by decide) ?_
                  refine VD.q rfl (q_assign rfl) (by decide) ?_
                  refine VD.to (fun _ _ h => h) ?_
                  refine VC.keep [4] rfl ?_
                  cases hS
                  exact VC.ret (fin1 (.inr rfl) rfl rfl () rfl trivial (fun _ _ => trivial) (fun _ _ => trivial))

end Go.Proofs.YtnkoilkmnpmlmaaDoor
end

section
/- Plain laws on loops that compare two rows. No program in sight. -/
namespace Go.S
theorem at_get {α : Type} {l : List α} {i : Int} (h0 : 0 ≤ i) (h : i < l.length) : ∃ z, l[i.toNat]? = some z := ⟨_, List.getElem?_eq_getElem (by omega)⟩
theorem eqloop {α : Type} [DecidableEq α] (P : α → α → Prop) [∀ z w, Decidable (P z w)] (hP : ∀ z w, P z w ↔ z = w) (l r : List α) (hl : (l.length : Int) = r.length) (hb : (l.length : Int) ≤ 1000000000) (B : Int → Option (Int ⊕ Bool))
    (hB : ∀ i, B i = if i < (l.length : Int) then (at_ l i).bind (fun z => (at_ r i).bind (fun w => if P z w then gd (I64 (i + 1)) (go (i + 1)) else up (some false))) else up (some true)) : iter B 0 = some (decide (l = r)) := by
  apply Ok.eq
  refine ok_iter (I := fun i => 0 ≤ i ∧ i ≤ l.length ∧ l.take i.toNat = r.take i.toNat) (μ := fun i => (l.length - i).toNat) ?_ ⟨by omega, by omega, rfl⟩
  rintro i ⟨h0, h1, h2⟩
  rw [hB]
  simp only [ok_if, ok_up, ok_bd, ok_gd, ok_go, ok_some, ok_at]
  refine ⟨fun h => ?_, fun h => ?_⟩
  · obtain ⟨z, hz⟩ := at_get h0 h
    obtain ⟨w, hw⟩ := at_get (l := r) h0 (by omega)
    refine ⟨h0, z, hz, h0, w, hw, fun hp => ?_, fun hp => ?_⟩
    · have e := (hP z w).1 hp
      refine ⟨⟨by omega, by omega⟩, ⟨by omega, by omega, ?_⟩, by omega⟩
      rw [show (i + 1).toNat = i.toNat + 1 by omega, List.take_add_one, List.take_add_one, h2, hz, hw, e]
    · have e : z ≠ w := fun e => hp ((hP z w).2 e)
      refine (decide_eq_false fun q => e ?_).symm
      subst q
      rw [hz] at hw
      exact Option.some.inj hw
  · have e : i.toNat = l.length := by omega
    rw [e, List.take_length] at h2
    rw [show l.length = r.length by omega, List.take_length] at h2
    exact (decide_eq_true h2).symm
end Go.S
end

section
namespace Go.S
open Go
theorem known7 : Sh.rectolaw7_known = some true := by decide +kernel
/-- small enough that a play is worth its while -/
def Few7 (o : ObjectObjectP) : Prop := (o.data.length : Int) ≤ 5000 ∧ (o.items.length : Int) ≤ 80 ∧ (o.parents.length : Int) ≤ 80 ∧ (o.text.length : Int) ≤ 400
theorem few_ok (o : ObjectObjectP) : Ok (Sh.rectolaw7_Few o) fun b => b = true → Few7 o := by
  have loop : (o.items.length : Int) ≤ 80 → ∀ (Q : Bool → Prop), (∀ b, Q b) → Ok (iter (fun (i3_4 : Int) =>
      if i3_4 < (o.items.length : Int) then ((at_ o.items i3_4).bind (fun z36_5 =>
      if 100 < (z36_5.path.length : Int) then (up (some false))
      else (gd (I64 (i3_4 + 1)) (go (i3_4 + 1)))))
      else (up (some true))) 0) Q := fun hs Q hQ => by
    refine ok_iter (I := fun i => 0 ≤ i ∧ i ≤ o.items.length) (μ := fun i => (o.items.length - i).toNat) ?_ ⟨by omega, by omega⟩
    rintro i ⟨h0, h1⟩
    simp only [ok_if, ok_up, ok_bd, ok_gd, ok_go, ok_some, ok_at]
    refine ⟨fun h => ?_, fun _ => hQ _⟩
    obtain ⟨z, hz⟩ := at_get h0 h
    exact ⟨h0, z, hz, fun _ => hQ _, fun _ => ⟨⟨by omega, by omega⟩, ⟨by omega, by omega⟩, by omega⟩⟩
  unfold Sh.rectolaw7_Few
  simp only [ok_jn, ok_if, ok_some]
  refine ⟨fun h1 => ⟨fun _ h => absurd h (by decide), fun h => absurd trivial h⟩, fun h1 => ⟨fun h2 => ⟨fun _ h => absurd h (by decide), fun h => absurd trivial h⟩, fun h2 => ⟨fun h3 => ⟨fun _ h => absurd h (by decide), fun h => absurd trivial h⟩, fun h3 => ⟨fun h4 h => absurd h (by decide), fun h4 => ?_⟩⟩⟩⟩
  refine loop (by omega) _ fun b _ => ⟨by omega, by omega, by omega, ?_⟩
  simp only [decide_eq_true_eq] at h4
  omega
/-- whether two objects are one -/
def same7 (a b : ObjectObjectP) : Bool := decide (a.kind = b.kind) && (if a.kind = 1 then decide (a.data = b.data) else if a.kind = 2 then decide (a.items = b.items) else if a.kind = 3 then decide (a.tree = b.tree) && decide (a.parents = b.parents) && decide (a.time = b.time) && decide (a.text = b.text) else true)
theorem same7_comm (a b : ObjectObjectP) : same7 a b = same7 b a := by
  unfold same7
  by_cases h : a.kind = b.kind
  · simp only [h, eq_comm]
  · have h' : ¬ b.kind = a.kind := fun e => h e.symm
    simp [h, h']
theorem eqItems {l r : List ObjectItem} (hl : (l.length : Int) ≤ 80) : Sh.slices_Equal_object_Item_object_Item l r = some (decide (l = r)) := by
  unfold Sh.slices_Equal_object_Item_object_Item
  by_cases h : (l.length : Int) = r.length
  · rw [if_pos h]
    refine eqloop (fun z w : ObjectItem => z.path = w.path ∧ z.mode = w.mode ∧ z.blob = w.blob) (fun z w => ?_) l r h (by omega) _ (fun i => rfl)
    cases z; cases w; simp
  · rw [if_neg h, decide_eq_false (fun e => h (by rw [e]))]
theorem eqInts {l r : List Int} (hl : (l.length : Int) ≤ 80) : Sh.slices_Equal_int_int l r = some (decide (l = r)) := by
  unfold Sh.slices_Equal_int_int
  by_cases h : (l.length : Int) = r.length
  · rw [if_pos h]
    exact eqloop (fun z w : Int => z = w) (fun z w => Iff.rfl) l r h (by omega) _ (fun i => rfl)
  · rw [if_neg h, decide_eq_false (fun e => h (by rw [e]))]
theorem same_ok {a b : ObjectObjectP} (ha : Few7 a) : Sh.object_Same a b = some (same7 a b) := by
  obtain ⟨h1, h2, h3, h4⟩ := ha
  unfold Sh.object_Same same7 Sh.bytes_Equal
  simp only [eqItems h2, eqInts h3, Option.bind_some]
  by_cases hk : a.kind = b.kind <;> simp only [hk, if_true, if_false, decide_true, decide_false, Bool.true_and, Bool.false_and]
  split
  · rfl
  · split
    · rfl
    · split
      · by_cases e1 : a.tree = b.tree <;> by_cases e2 : a.parents = b.parents <;> by_cases e3 : a.time = b.time <;> simp [e1, e2, e3]
      · rfl
def it7 (x : ObjectItem) : Rectoref7Item := ⟨x.path, x.mode, x.blob⟩
theorem it7_inj {x y : ObjectItem} (h : it7 x = it7 y) : x = y := by
  cases x; cases y; simp [it7] at h; simp [h]
theorem map_inj7 {α β : Type} {f : α → β} (hf : ∀ x y, f x = f y → x = y) : ∀ {l r : List α}, l.map f = r.map f → l = r
  | [], [], _ => rfl
  | [], _ :: _, h => by simp at h
  | _ :: _, [], h => by simp at h
  | x :: l, y :: r, h => by
    simp only [List.map_cons, List.cons.injEq] at h
    rw [hf x y h.1, map_inj7 hf h.2]
def of7 (o : ObjectObjectP) : Rectoref7ObjectP := ⟨o.kind, o.data, o.items.map it7, o.tree, o.parents, o.time, o.text⟩
theorem of_ok {o : ObjectObjectP} (ho : Few7 o) : Sh.rectolaw7_Of o = some (of7 o) := by
  obtain ⟨_, h2, _, _⟩ := ho
  apply Ok.eq
  unfold Sh.rectolaw7_Of
  refine ok_iter (I := fun x => 0 ≤ x.1 ∧ x.1 ≤ o.items.length ∧ x.2 = (o.items.take x.1.toNat).map it7) (μ := fun x => (o.items.length - x.1).toNat) ?_ ⟨by simp, by simp, by simp⟩
  rintro ⟨i, l⟩ ⟨h0, h1, hl⟩
  dsimp only at h0 h1 hl ⊢
  simp only [ok_if, ok_up, ok_bd, ok_gd, ok_lt, ok_go, ok_some, ok_at]
  refine ⟨fun h => ?_, fun h => ?_⟩
  · obtain ⟨z, hz⟩ := at_get h0 h
    have hlen : l.length = i.toNat := by rw [hl, List.length_map, List.length_take]; omega
    refine ⟨h0, z, hz, h0, z, hz, h0, z, hz, by simp [hlen]; omega, ⟨by omega, by omega⟩, ⟨by omega, by omega, ?_⟩, by omega⟩
    rw [show (i + 1).toNat = i.toNat + 1 by omega, List.take_add_one, hz, hl]
    simp [it7]
  · rw [hl, show i.toNat = o.items.length by omega, List.take_length]
    rfl
theorem refsame_ok {a b : ObjectObjectP} (ha : Few7 a) (hk : a.kind = b.kind → 1 ≤ a.kind ∧ a.kind ≤ 3) : Sh.rectoref7_Same (of7 a) (of7 b) = some (same7 a b) := by
  obtain ⟨h1, h2, h3, h4⟩ := ha
  unfold Sh.rectoref7_Same same7 of7
  dsimp only
  by_cases hk : a.kind = b.kind
  · simp only [hk, if_true, decide_true, Bool.true_and]
    split
    · rfl
    · split
      · by_cases hl : ((a.items.map it7).length : Int) = ((b.items.map it7).length : Int)
        · rw [if_pos hl]
          rw [eqloop (fun z w : Rectoref7Item => z.path = w.path ∧ z.mode = w.mode ∧ z.blob = w.blob) (fun z w => by cases z; cases w; simp) _ _ hl (by rw [List.length_map]; omega) _ (fun i => rfl)]
          congr 1
          exact decide_eq_decide.2 ⟨fun h => map_inj7 (fun _ _ => it7_inj) h, fun h => by rw [h]⟩
        · rw [if_neg hl, decide_eq_false fun e => hl (by rw [e])]
      · split
        · simp only [jn]
          by_cases e1 : a.tree = b.tree
          · by_cases e2 : (a.parents.length : Int) = b.parents.length
            · by_cases e3 : a.time = b.time
              · by_cases e4 : a.text = b.text
                · simp only [e1, e2, e3, e4, if_true, decide_true, Bool.not_true, Bool.false_eq_true, if_false, Bool.and_true, Bool.true_and]
                  rw [← e2]
                  exact eqloop (fun z w : Int => z = w) (fun z w => Iff.rfl) _ _ e2 (by omega) _ (fun i => rfl)
                · simp [e1, e2, e3, e4]
              · simp [e1, e2, e3]
            · have : ¬ a.parents = b.parents := fun e => e2 (by rw [e])
              simp [e1, e2, this]
          · simp [e1]
        · rfl
  · simp [hk]
theorem objectTwo_ok (a b : ObjectObjectP) : Sh.rectolaw7_ObjectTwo a b = some true := by
  obtain ⟨x, hx, fx⟩ := few_ok a
  obtain ⟨y, hy, fy⟩ := few_ok b
  unfold Sh.rectolaw7_ObjectTwo
  rw [known7, hx, hy]
  simp only [Option.bind_some, jn, Bool.not_true, Bool.false_eq_true, if_false]
  cases x with
  | false => simp
  | true =>
    cases y with
    | false => simp
    | true =>
      have ha := fx rfl
      have hb := fy rfl
      simp only [Bool.not_true, Bool.false_eq_true, if_false, same_ok ha, same_ok hb, Option.bind_some, of_ok ha, of_ok hb, same7_comm b a, if_true]
      split
      · rfl
      · split
        · rfl
        · split
          · rfl
          · split
            · rfl
            · rw [refsame_ok ha (fun _ => ⟨by omega, by omega⟩)]
              simp
end Go.S
end

section
set_option linter.unusedVariables false
namespace Go.V
open Go.RowKit Go.ChangeShapes Go.WideShapes
/-- a law's run, in the kit's words -/
theorem Ct.law {P : Program} {f : FuncId} {args : List Value} {M : Mo} {v : Value} {φ : Unit → Prop} {M2 : Unit → Mo} {E2 : Unit → Ow} (h : Ct P f args M Ow.emp (fun _ => v) φ M2 E2) {w : World} (hM : M.on (wh w)) :
    Calls P f args.toArray w fun en w' => en = .returned v ∧ Gr w w' :=
  (h.calls w (wh w) Hp.nil hM trivial (Hp.nil_off _) (fun _ _ e => e) (fun b o q => by cases q)).mono fun en w' ⟨r, e1, z, e2, e3, e4⟩ => ⟨by rw [e1, e2], e4.os, e4.tape, e4.output, e4.size, fun b hb => e4.frame b hb (by simp [Hp.nil])⟩
section
variable {H : Type} {enc : TypeId × Value → H} {P : Program} {W W' : World}
theorem trodAll_stays (hl : laidOutB P = true) {sp' : Nat → Bool} : ∀ {ts : List TypeId} {vs : List Value} {ds : List (DataW H)} {ps : List MemPlace}, ts.all (fun t => P.readableRec t && decide (t < P.types.size)) = true →
    DataW.TrodAll enc P W 0 (fun _ => true) true ts vs ds ps → (∀ p ∈ ps, W.sameAt W' p) → (∀ p ∈ ps, sp' p.block = true) → DataW.TrodAll enc P W' 0 sp' true ts vs ds ps
  | [], [], [], _, _, h, _, _ => h
  | t :: ts, v :: vs, d :: ds, _, ha, ⟨p, q, h1, h2, rfl⟩, hs, hb => by
    simp only [List.all_cons, Bool.and_eq_true, decide_eq_true_eq] at ha
    exact ⟨p, q, WideElems.Trod_stays hl ha.1.1 ha.1.2 h1 (fun x hx => hs x (List.mem_append_left _ hx)) (fun x hx => hb x (List.mem_append_left _ hx)),
      trodAll_stays hl ha.2 h2 (fun x hx => hs x (List.mem_append_right _ hx)) (fun x hx => hb x (List.mem_append_right _ hx)), rfl⟩
  | [], _ :: _, _, _, _, h, _, _ => by simp [DataW.TrodAll] at h
  | [], [], _ :: _, _, _, h, _, _ => by simp [DataW.TrodAll] at h
  | _ :: _, [], _, _, _, h, _, _ => by simp [DataW.TrodAll] at h
  | _ :: _, _ :: _, [], _, _, h, _, _ => by simp [DataW.TrodAll] at h
theorem Gr.below (h : Gr W W') : Below W.heap.size W W' := ⟨h.os, h.tape, h.output, h.size, h.block⟩
/-- a law that answers true and leaves all as it was -/
theorem law_post {f : Func} {s : ChangeSpec} {args : Array Value} {ds gs : List (DataW H)} {before : List MemPlace} {tb : TypeId} {fresh handsOn : Bool}
    (hl : laidOutB P = true) (hp : f.params.toList.all (fun t => P.readableRec t && decide (t < P.types.size)) = true) (hr : f.resultTypes = #[tb]) (htb : P.underlying tb = some .bool) (hv : s.vars = [])
    (hW : DataW.Whole enc P f.params.toList s.vars false W args.toList ds gs before) (hg : Gr W W') (hs : s.fn H ds = ⟨[.lit (.bool true)], ds, []⟩) : s.post enc P f false fresh handsOn false W args (.bool true) W' := by
  have hW' := hW
  obtain ⟨p, q, hA, hV, rfl, hfz, hnd⟩ := hW
  rw [hv] at hV
  obtain ⟨rfl, rfl⟩ : gs = [] ∧ q = [] := by
    cases gs
    · exact ⟨rfl, hV⟩
    · simp [DataW.TrodVars] at hV
  have hb : ∀ x ∈ p, x.block < W.heap.size := fun x hx => by simpa using hW'.lt x (List.mem_append_left _ hx)
  refine ⟨ds, [], _, [], p, [], hW', ?_, ?_, ?_, hg.below.frame _, fun h => by cases h⟩
  · rw [List.append_nil, hs, hr]
    exact trodAll_mk1 (shut_bool htb true)
  · rw [List.append_nil, hs]
    exact trodAll_stays hl hp hA (fun x hx => hg.below.same (hb x hx)) (fun x hx => by simpa using hb x hx)
  · rw [List.append_nil, hs, hv]
    rfl
theorem add_block (a : Addr) (i : Nat) : (a.add i).block = a.block := by unfold Addr.add; split <;> rfl
theorem add_off (a : Addr) (i : Nat) : (a.add i).off = a.off + i := by unfold Addr.add; split <;> simp_all
theorem op_str {t : TypeId} {v : Value} {r : Reach} {b0 : Nat} (ht : P.underlying t = some .string) (hv : Value.okWide P W r b0 t v) : ∃ s : Str, v = str s := by
  obtain ⟨s, rfl⟩ := okWide_string ht hv
  exact ⟨s.data.toList, rfl⟩
theorem op_strs {t e : TypeId} {v : Value} {r : Reach} {b0 b1 : Nat} {sp : Nat → Bool} {hd : Bool} {d : DataW H} {p : List MemPlace} (ht : P.underlying t = some (.slice e)) (he : P.underlying e = some .string) (hc : P.cellsOf e = 1)
    (hv : Value.okWide P W r b0 t v) (h : DataW.Trod enc P W b1 sp hd t v d p) : ∃ s : Sv Str, v = s.val ∧ s.ok.on (wh W) := by
  obtain ⟨a0, len, cap, rfl⟩ := okWide_slice ht hv
  obtain ⟨fuel, hf⟩ := h
  rcases open_strings ht he hc hf with ⟨hcs, hx⟩ | ⟨a, len', cap', ss, hcs, _, hl, hm, hz, hx, hcell, hsz⟩
  · simp [Value.cells] at hcs
    obtain ⟨rfl, rfl, rfl⟩ := hcs
    exact ⟨⟨none, 0, []⟩, rfl, by simp, by simp [maxLen], by simp, by simp, by simp⟩
  · simp [Value.cells] at hcs
    obtain ⟨rfl, rfl, rfl⟩ := hcs
    have hlen : len ≤ ss.length := by rw [hz]; split <;> omega
    refine ⟨⟨some a, cap, (ss.take len).map fun s => s.data.toList⟩, ?_, ?_, hm, ?_, ?_, fun _ _ => trivial⟩
    · simp [Sv.val, Nat.min_eq_left hlen]
    · simp [Nat.min_eq_left hlen]; exact hl
    · intro hne
      have h0 : 0 < ss.length := by
        rcases Nat.eq_zero_or_pos ss.length with h | h
        · exact absurd (by simp [List.length_eq_zero_iff.1 h]) hne
        · exact h
      have := hcell 0 h0
      unfold World.cell? at this
      split at this
      · split at this
        · cases this
        · next hsp =>
          simp [Addr.add] at hsp
          cases a
          simp_all [Sv.b, Sv.o]
      · cases this
    · intro i x hx2 j u hj
      rw [List.getElem?_map, Option.map_eq_some_iff] at hx2
      obtain ⟨y, hy, rfl⟩ := hx2
      rw [List.getElem?_take] at hy
      split at hy
      · next hi =>
        have hi2 := (List.getElem?_eq_some_iff.1 hy).1
        have h1 := hcell i hi2
        obtain ⟨rfl, rfl⟩ : j = 0 ∧ u = str y.data.toList := by
          cases j with
          | zero => exact ⟨rfl, (Option.some.inj hj).symm⟩
          | succ j => simp [Dat.enc] at hj
        rw [List.getD_eq_getElem?_getD, hy] at h1
        unfold World.cell? at h1
        show Hp.cell (wh W) a.block (a.off + i * 1 + 0) = _
        unfold Hp.cell wh
        rw [add_block, add_off] at h1
        simp only [Nat.mul_one, Nat.add_zero]
        split at h1
        · next c hb =>
          rw [hb]
          split at h1
          · cases h1
          · simpa using h1
        · cases h1
      · cases hy
end
end Go.V
end

section
set_option linter.unusedVariables false
namespace Go.V
open Go.RowKit Go.ChangeShapes Go.WideShapes
instance : Dat Bool := ⟨1, fun b => [.bool b], fun _ => rfl, fun _ _ h => by cases List.mem_singleton.1 h; rfl, fun _ => Mo.tt⟩
section
variable {P : Program}
/-- whatever can be read of a type is such data, with all that it leads to -/
def Opn (P : Program) (t : TypeId) (α : Type) [Dat α] : Prop := ∀ {H : Type} {enc : TypeId × Value → H} {W : World} {b0 : Nat} {sp : Nat → Bool} {hd : Bool} {fuel : Nat} {cs : List Value} {x : DataW H × List MemPlace},
  DataW.trod enc P W b0 sp hd fuel t cs = some x → ∃ z : α, cs = Dat.enc z ∧ (Dat.deep z).on (wh W)
theorem Opn.i64 {t : TypeId} (ht : P.underlying t = some (.int .i64)) : Opn P t Int := fun h => by
  obtain ⟨n, rfl, _, _⟩ := DataW.trod_int ht h
  exact ⟨n, rfl, trivial⟩
theorem Opn.bool {t : TypeId} (ht : P.underlying t = some .bool) : Opn P t Bool := fun h => by
  obtain ⟨n, rfl, _⟩ := DataW.trod_bool ht h
  exact ⟨n, rfl, trivial⟩
theorem Opn.u8 {t : TypeId} (ht : P.underlying t = some (.int .u8)) : Opn P t UInt8 := fun h => by
  obtain ⟨n, rfl, _, hw⟩ := DataW.trod_int ht h
  have hb : 0 ≤ n ∧ n ≤ 255 := by simpa [Lit.wf, IntKind.min, IntKind.max, IntKind.signed, IntKind.bits] using hw
  refine ⟨UInt8.ofNat n.toNat, ?_, trivial⟩
  show [Value.int .u8 n] = [.int .u8 ((UInt8.ofNat n.toNat).toNat : Int)]
  rw [← u8_z hb rfl]
theorem Opn.str {t : TypeId} (ht : P.underlying t = some .string) : Opn P t Str := fun h => by
  obtain ⟨s, rfl, _, _⟩ := DataW.trod_string ht h
  exact ⟨s.data.toList, rfl, trivial⟩
theorem pick_list {α : Type} {Q : Nat → α → Prop} : ∀ (n : Nat), (∀ i, i < n → ∃ z, Q i z) → ∃ l : List α, l.length = n ∧ ∀ i z, l[i]? = some z → Q i z
  | 0, _ => ⟨[], rfl, fun i z h => by simp at h⟩
  | n + 1, h => by
    obtain ⟨l, hl, hq⟩ := pick_list n fun i hi => h i (by omega)
    obtain ⟨z, hz⟩ := h n (by omega)
    refine ⟨l ++ [z], by simp [hl], fun i y hy => ?_⟩
    rw [List.getElem?_append] at hy
    split at hy
    · exact hq i y hy
    · have : i = n := by
        have := (List.getElem?_eq_some_iff.1 hy).1
        simp at this; omega
      subst this
      rw [hl] at hy
      simp at hy
      subst hy
      exact hz
theorem cells_at {W : World} {b0 n : Nat} {a : Addr} {cs : List Value} (h : W.cells? b0 a n = some cs) (hn : 0 < n) : a.spot = none ∧ (wh W).at a.block a.off cs := by
  unfold World.cells? at h
  split at h
  · have hl := mapM_some_length h
    rw [List.length_range] at hl
    have hg : ∀ i, i < n → W.cell? (a.add i) = cs[i]? := fun i hi => mapM_some_get h i i (by simp [hi])
    have key : ∀ (c : Addr) (v : Value), W.cell? c = some v → c.spot = none ∧ (wh W).cell c.block c.off = some v := fun c v hc => by
      unfold World.cell? at hc
      unfold Hp.cell wh
      split at hc
      · next hb =>
        split at hc
        · cases hc
        · next hsp => exact ⟨by simpa using hsp, by rw [hb]; simpa using hc⟩
      · cases hc
    refine ⟨?_, fun j v hj => ?_⟩
    · obtain ⟨v, hv⟩ : ∃ v, cs[0]? = some v := ⟨_, List.getElem?_eq_getElem (by omega)⟩
      have := (key _ v ((hg 0 hn).trans hv)).1
      unfold Addr.add at this
      split at this <;> simp_all
    · have hjn : j < n := by have := (List.getElem?_eq_some_iff.1 hj).1; omega
      have := (key _ v ((hg j hjn).trans hj)).2
      rwa [add_block, add_off] at this
  · cases h
theorem Opn.sv {t e : TypeId} {α : Type} [Dat α] (ht : P.underlying t = some (.slice e)) (hc : P.cellsOf e = Dat.sz α) (hpos : 0 < Dat.sz α) (he : Opn P e α) : Opn P t (Sv α) := fun {H enc W b0 sp hd fuel cs x} h => by
  rcases DataW.trod_slice ht h with ⟨rfl, _⟩ | ⟨a, len, cap, elems, rest, n, _, rfl, _, hb, hl, hm, hlen, hel, _⟩
  · exact ⟨⟨none, 0, []⟩, rfl, Nat.le_refl _, by simp [maxLen], fun h => absurd rfl h, fun _ _ h => by simp at h, fun _ h => by cases h⟩
  · have each : ∀ i, i < len → ∃ z : α, W.cells? b0 (a.add (i * Dat.sz α)) (Dat.sz α) = some (Dat.enc z) ∧ (Dat.deep z).on (wh W) := fun i hi => by
      have h1 := hel i hi
      rw [List.getElem?_eq_getElem (by omega), hc] at h1
      cases h2 : W.cells? b0 (a.add (i * Dat.sz α)) (Dat.sz α) with
      | none => rw [h2] at h1; cases h1
      | some cs' =>
        rw [h2] at h1
        obtain ⟨z, rfl, hz⟩ := he h1
        exact ⟨z, rfl, hz⟩
    obtain ⟨l, h1, h2⟩ := pick_list len each
    refine ⟨⟨some a, cap, l⟩, by rw [← h1]; rfl, by simpa [h1] using hl, hm, fun hne => ?_, fun i z hz => ?_, fun z hz => ?_⟩
    · simp only at hne
      obtain ⟨z, hz⟩ : ∃ z, l[0]? = some z := ⟨_, List.getElem?_eq_getElem (List.length_pos_iff.2 hne)⟩
      have := (cells_at (h2 0 z hz).1 hpos).1
      simp only [Nat.zero_mul] at this
      cases a
      simp [Addr.add] at this
      simp_all [Sv.b, Sv.o]
    · have := (cells_at (h2 i z hz).1 hpos).2
      rw [add_block, add_off] at this
      exact this
    · obtain ⟨i, hi, rfl⟩ := List.mem_iff_getElem.1 hz
      exact (h2 i l[i] (List.getElem?_eq_getElem hi)).2
theorem trod_fields {H : Type} {enc : TypeId × Value → H} {W : World} {b0 : Nat} {sp : Nat → Bool} {hd : Bool} {fuel : Nat} {cs : List Value} {x : DataW H × List MemPlace} {t : TypeId} {fs : Array Field} (ht : P.underlying t = some (.struct fs)) (h : DataW.trod enc P W b0 sp hd fuel t cs = some x) :
    cs.length = P.cellsOf t ∧ ∀ (i : Nat) (f : Field), fs[i]? = some f → ∃ (n : Nat) (y : DataW H × List MemPlace), DataW.trod enc P W b0 sp hd n f.type ((cs.drop f.offset).take (P.cellsOf f.type)) = some y := by
  obtain ⟨xs, n, _, _, hl, hx, hf⟩ := DataW.trod_struct ht h
  refine ⟨hl, fun i f hi => ⟨n, ?_⟩⟩
  have h1 := hf i f hi
  have hi' := (Array.getElem?_eq_some_iff.1 hi).1
  rw [List.getElem?_eq_getElem (by omega)] at h1
  exact ⟨_, h1⟩
/-- a field -/
theorem Opn.fld {H : Type} {enc : TypeId × Value → H} {W : World} {b0 : Nat} {sp : Nat → Bool} {hd : Bool} {cs cs' : List Value} {t : TypeId} {α : Type} [Dat α] (ho : Opn P t α) {off k : Nat} (hk : P.cellsOf t = k) (h : ∃ (n : Nat) (y : DataW H × List MemPlace), DataW.trod enc P W b0 sp hd n t ((cs.drop off).take (P.cellsOf t)) = some y) (hc : (cs.drop off).take k = cs') :
    ∃ z : α, cs' = Dat.enc z ∧ (Dat.deep z).on (wh W) := by
  subst hk
  subst hc
  obtain ⟨n, y, h⟩ := h
  exact ho h
/-- an argument, out of what is read of it -/
theorem Opn.arg {t : TypeId} {α : Type} [Dat α] (ho : Opn P t α) {H : Type} {enc : TypeId × Value → H} {W : World} {b0 : Nat} {sp : Nat → Bool} {hd : Bool} {v : Value} {d : DataW H} {p : List MemPlace} (h : DataW.Trod enc P W b0 sp hd t v d p) : ∃ z : α, v.cells.toList = Dat.enc z ∧ (Dat.deep z).on (wh W) := by
  obtain ⟨f, h⟩ := h
  exact ho h
theorem cells_agg {cs : List Value} {v : Value} {c : Array Value} (hv : v = .agg c) (h : v.cells.toList = cs) : v = .agg cs.toArray := by
  subst hv
  subst h
  simp [Value.cells]
theorem okw_struct {W : World} {r : Reach} {b0 : Nat} {t : TypeId} {fs : Array Field} {v : Value} (ht : P.underlying t = some (.struct fs)) (h : Value.okWide P W r b0 t v) : ∃ c, v = .agg c := by
  unfold Value.okWide at h
  rw [ht] at h
  obtain ⟨c, hc, _⟩ := h
  exact ⟨c, hc⟩
theorem okw_slice {W : World} {r : Reach} {b0 : Nat} {t e : TypeId} {v : Value} {α : Type} [Dat α] {z : Sv α} (ht : P.underlying t = some (.slice e)) (h : Value.okWide P W r b0 t v) (hc : v.cells.toList = Dat.enc z) : v = z.val := by
  obtain ⟨a0, len, cap, rfl⟩ := okWide_slice ht h
  have : [Value.slice a0 len cap] = [z.val] := hc
  exact List.head_eq_of_cons_eq this
end
end Go.V
end
