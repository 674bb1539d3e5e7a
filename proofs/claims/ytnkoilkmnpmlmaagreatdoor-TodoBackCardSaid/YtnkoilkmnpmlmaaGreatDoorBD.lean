/- Part of the proofs of: Any steps in words and back, and whether they can be done on any commits, and the first that can not: as the document has it, for any steps and any graph. -/
import Derived.Test.YtnkoilkmnpmlmaaGreatDoorBC
set_option linter.unusedVariables false
set_option linter.unusedSimpArgs false
set_option linter.unusedSectionVars false
section
set_option linter.unusedVariables false
namespace Go.Proofs.YtnkoilkmnpmlmaaGreatDoor
open Go.RowKit Go.V
open Go.S hiding Str
set_option maxHeartbeats 4000000 in
set_option maxRecDepth 100000 in
theorem rectoref17_step_ct (s_0 : Str) {r : Rectoref17Step × Int} (hS : Sh.rectoref17_step s_0 = some r) :
    Ct Tryz.prog 54 [str s_0] Mo.tt (Ow.emp) (X := Unit) (fun _ => .tuple #[.agg #[str r.1.verb, i64 r.1.commit, str r.1.text], i64 r.2]) (fun _ => True) (fun _ => Mo.tt) (fun _ => Ow.emp) := by
  refine Ct.of Tryz.func54 rfl (by kernel_rfl) Tryz.ntmps54 (by simp) fun c => ?_
  unfold Sh.rectoref17_step at hS
  refine VC.seq ?_
  refine VC.region ?_
  refine VL.alloc (cs := [str [], i64 0, str []]) (by kernel_rfl) (by decide) fun b2_1 => ?_
  refine VL.q (q_assign rfl) (by decide) ?_
  refine VL.to (fun _ _ h => h) ?_
  refine VC.seq ?_
  refine VC.region ?_
  refine VL.q (q_move rfl) (by decide) ?_
  obtain ⟨y11_2, ey11_2, hS⟩ := bd_s hS
  refine VL.q (q_call (rectoref17_word_ct s_0 ey11_2) rfl (fun _ _ => rfl)) (by decide) ?_
  refine VL.q (q_move rfl) (by decide) ?_
  refine VL.q (q_extract rfl rfl) (by decide) ?_
  refine VL.q (q_extract rfl rfl) (by decide) ?_
  refine VL.q (q_assign rfl) (by decide) ?_
  refine VL.q (q_assign rfl) (by decide) ?_
  refine VL.to (fun _ _ h => h) ?_
  refine VC.seq ?_
  refine VC.region ?_
  refine VL.q (q_move rfl) (by decide) ?_
  obtain ⟨y16_3, ey16_3, hS⟩ := bd_s hS
  refine VL.q (q_call (rectoref17_word_ct y11_2.2 ey16_3) rfl (fun _ _ => rfl)) (by decide) ?_
  refine VL.q (q_move rfl) (by decide) ?_
  refine VL.q (q_extract rfl rfl) (by decide) ?_
  refine VL.q (q_extract rfl rfl) (by decide) ?_
  refine VL.q (q_assign rfl) (by decide) ?_
  refine VL.q (q_assign rfl) (by decide) ?_
  refine VL.to (fun _ _ h => h) ?_
  refine VC.keep [2, 4, 6, 7] rfl ?_
  refine VC.seq ?_
  refine VC.seq ?_
  refine VC.region ?_
  refine VL.q (q_move rfl) (by decide) ?_
  refine VL.q (q_seq rfl rfl) (by decide) ?_
  refine VL.to (fun _ _ h => h) ?_
  refine VC.cond_dec rfl (fun h20 => ?_) (fun h20 => ?_)
  ·
    replace hS := it_t h20 hS
    refine VC.seq ?_
    refine VC.region ?_
    refine VL.q (q_build (vs := []) (cs := #[str [], i64 0, str []]) rfl (by kernel_rfl)) (by decide) ?_
    refine VL.store (vc := [str [], i64 0, str []]) (cs' := [str [], i64 0, str []]) rfl rfl rfl gsz111 rfl rfl (Nat.le_of_ble_eq_true rfl) rfl ?_
    refine VL.q (q_assign rfl) (by decide) ?_
    refine VL.to (fun _ _ h => h) ?_
    cases hS
    exact VC.ret (finG (vs := [.agg #[str [], i64 0, str []], i64 2]) (.inr rfl) rfl (RVs.cell gagg111 rfl rfl Rd.blk (RVs.tmp rfl (RVs.nil))) () rfl trivial (by (try dsimp only); exact InM.out) (fun _ _ => trivial))
  ·
    replace hS := it_f h20 hS
    refine VC.skip_to (fun _ _ h => h) ?_
    refine VC.seq ?_
    refine VC.seq ?_
    refine VC.region ?_
    refine VL.q (q_move rfl) (by decide) ?_
    obtain ⟨y23_4, ey23_4, hS⟩ := bd_s hS
    refine VL.q (q_call (rectoref17_Verb_ct y11_2.1 ey23_4) rfl (fun _ _ => rfl)) (by decide) ?_
    refine VL.q (q_lss rfl rfl) (by decide) ?_
    refine VL.to (fun _ _ h => h) ?_
    refine VC.cond_dec rfl (fun h24 => ?_) (fun h24 => ?_)
    ·
      replace hS := it_t h24 hS
      refine VC.seq ?_
      refine VC.region ?_
      refine VL.q (q_build (vs := []) (cs := #[str [], i64 0, str []]) rfl (by kernel_rfl)) (by decide) ?_
      refine VL.store (vc := [str [], i64 0, str []]) (cs' := [str [], i64 0, str []]) rfl rfl rfl gsz111 rfl rfl (Nat.le_of_ble_eq_true rfl) rfl ?_
      refine VL.q (q_assign rfl) (by decide) ?_
      refine VL.to (fun _ _ h => h) ?_
      refine VC.keep [2, 3] rfl ?_
      cases hS
      exact VC.ret (finG (vs := [.agg #[str [], i64 0, str []], i64 5]) (.inr rfl) rfl (RVs.cell gagg111 rfl rfl Rd.blk (RVs.tmp rfl (RVs.nil))) () rfl trivial (by (try dsimp only); exact InM.out) (fun _ _ => trivial))
    ·
      replace hS := it_f h24 hS
      refine VC.skip_to (fun _ _ h => h) ?_
      refine VC.seq ?_
      refine VC.region ?_
      refine VL.q (q_move rfl) (by decide) ?_
      obtain ⟨y27_5, ey27_5, hS⟩ := bd_s hS
      refine VL.q (q_call (rectoref17_Number_ct y16_3.1 ey27_5) rfl (fun _ _ => rfl)) (by decide) ?_
      refine VL.q (q_assign rfl) (by decide) ?_
      refine VL.to (fun _ _ h => h) ?_
      refine VC.keep [2, 4, 7, 8] rfl ?_
      refine VC.seq ?_
      refine VC.seq ?_
      refine VC.region ?_
      refine VL.q (q_move rfl) (by decide) ?_
      refine VL.q (q_lss rfl rfl) (by decide) ?_
      refine VL.to (fun _ _ h => h) ?_
      refine VC.cond_dec rfl (fun h29 => ?_) (fun h29 => ?_)
      ·
        replace hS := it_t h29 hS
        refine VC.seq ?_
        refine VC.region ?_
        refine VL.q (q_build (vs := []) (cs := #[str [], i64 0, str []]) rfl (by kernel_rfl)) (by decide) ?_
        refine VL.store (vc := [str [], i64 0, str []]) (cs' := [str [], i64 0, str []]) rfl rfl rfl gsz111 rfl rfl (Nat.le_of_ble_eq_true rfl) rfl ?_
        refine VL.q (q_assign rfl) (by decide) ?_
        refine VL.to (fun _ _ h => h) ?_
        cases hS
        exact VC.ret (finG (vs := [.agg #[str [], i64 0, str []], i64 1]) (.inr rfl) rfl (RVs.cell gagg111 rfl rfl Rd.blk (RVs.tmp rfl (RVs.nil))) () rfl trivial (by (try dsimp only); exact InM.out) (fun _ _ => trivial))
      ·
        replace hS := it_f h29 hS
        refine VC.skip_to (fun _ _ h => h) ?_
        refine VC.seq ?_
        refine VC.seq ?_
        refine VC.region ?_
        refine VL.q (q_move rfl) (by decide) ?_
        refine VL.q (q_sne rfl rfl) (by decide) ?_
        refine VL.to (fun _ _ h => h) ?_
        refine VC.cond_ndec rfl (fun h32 => ?_) (fun h32 => ?_)
        ·
          replace hS := it_f h32 hS
          refine VC.seq ?_
          refine VC.seq ?_
          refine VC.region ?_
          refine VL.q (q_move rfl) (by decide) ?_
          obtain ⟨y34_6, ey34_6, hS⟩ := bd_s hS
          refine VL.q (q_call (rectoref17_blank_ct y16_3.2 ey34_6) rfl (fun _ _ => rfl)) (by decide) ?_
          refine VL.q (q_not rfl) (by decide) ?_
          refine VL.to (fun _ _ h => h) ?_
          refine VC.keep [2, 4, 8, 35] rfl ?_
          refine VC.cond rfl (fun h35 => ?_) (fun h35 => ?_)
          ·
            replace hS := it_t h35 hS
            refine VC.seq ?_
            refine VC.region ?_
            refine VL.q (q_build (vs := []) (cs := #[str [], i64 0, str []]) rfl (by kernel_rfl)) (by decide) ?_
            refine VL.store (vc := [str [], i64 0, str []]) (cs' := [str [], i64 0, str []]) rfl rfl rfl gsz111 rfl rfl (Nat.le_of_ble_eq_true rfl) rfl ?_
            refine VL.q (q_assign rfl) (by decide) ?_
            refine VL.to (fun _ _ h => h) ?_
            cases hS
            exact VC.ret (finG (vs := [.agg #[str [], i64 0, str []], i64 2]) (.inr rfl) rfl (RVs.cell gagg111 rfl rfl Rd.blk (RVs.tmp rfl (RVs.nil))) () rfl trivial (by (try dsimp only); exact InM.out) (fun _ _ => trivial))
          ·
            replace hS := it_b h35 hS
            refine VC.skip_to (fun _ _ h => h) ?_
            refine VC.seq ?_
            refine VC.region ?_
            refine VL.q (q_move rfl) (by decide) ?_
            refine VL.q (q_move rfl) (by decide) ?_
            refine VL.q (q_build (vs := [(0, str y11_2.1), (1, i64 y27_5)]) (cs := #[str y11_2.1, i64 y27_5, str []]) rfl (by kernel_rfl)) (by decide) ?_
            refine VL.store (vc := [str y11_2.1, i64 y27_5, str []]) (cs' := [str y11_2.1, i64 y27_5, str []]) rfl rfl rfl gsz111 rfl rfl (Nat.le_of_ble_eq_true rfl) rfl ?_
            refine VL.q (q_assign rfl) (by decide) ?_
            refine VL.to (fun _ _ h => h) ?_
            cases hS
            exact VC.ret (finG (vs := [.agg #[str y11_2.1, i64 y27_5, str []], i64 0]) (.inr rfl) rfl (RVs.cell gagg111 rfl rfl Rd.blk (RVs.tmp rfl (RVs.nil))) () rfl trivial (by (try dsimp only); exact InM.out) (fun _ _ => trivial))
        ·
          replace hS := it_t h32 hS
          refine VC.skip_to (fun _ _ h => h) ?_
          refine VC.seq ?_
          refine VC.seq ?_
          refine VC.region ?_
          refine VL.q (q_move rfl) (by decide) ?_
          refine VL.q (q_slen Tryz.underlying9 rfl) (by decide) ?_
          refine VL.q (q_lss rfl rfl) (by decide) ?_
          refine VL.to (fun _ _ h => h) ?_
          refine VC.cond_dec rfl (fun h42 => ?_) (fun h42 => ?_)
          ·
            replace hS := it_t h42 hS
            refine VC.seq ?_
            refine VC.region ?_
            refine VL.q (q_build (vs := []) (cs := #[str [], i64 0, str []]) rfl (by kernel_rfl)) (by decide) ?_
            refine VL.store (vc := [str [], i64 0, str []]) (cs' := [str [], i64 0, str []]) rfl rfl rfl gsz111 rfl rfl (Nat.le_of_ble_eq_true rfl) rfl ?_
            refine VL.q (q_assign rfl) (by decide) ?_
            refine VL.to (fun _ _ h => h) ?_
            refine VC.keep [2, 3] rfl ?_
            cases hS
            exact VC.ret (finG (vs := [.agg #[str [], i64 0, str []], i64 2]) (.inr rfl) rfl (RVs.cell gagg111 rfl rfl Rd.blk (RVs.tmp rfl (RVs.nil))) () rfl trivial (by (try dsimp only); exact InM.out) (fun _ _ => trivial))
          ·
            replace hS := it_f h42 hS
            refine VC.skip_to (fun _ _ h => h) ?_
            refine VC.keep [2, 4, 7, 8] rfl ?_
            refine VC.seq ?_
            refine VC.seq ?_
            refine VC.region ?_
            refine VL.q (q_move rfl) (by decide) ?_
            refine VL.q (q_slen Tryz.underlying9 rfl) (by decide) ?_
            obtain ⟨b46, hS⟩ := gd_s hS
            refine VL.q (q_sub rfl rfl b46) (by decide) ?_
            refine VL.q (q_gtr rfl rfl) (by decide) ?_
            refine VL.to (fun _ _ h => h) ?_
            refine VC.cond_dec rfl (fun h47 => ?_) (fun h47 => ?_)
            ·
              replace hS := it_t h47 hS
              refine VC.seq ?_
              refine VC.region ?_
              refine VL.q (q_build (vs := []) (cs := #[str [], i64 0, str []]) rfl (by kernel_rfl)) (by decide) ?_
              refine VL.store (vc := [str [], i64 0, str []]) (cs' := [str [], i64 0, str []]) rfl rfl rfl gsz111 rfl rfl (Nat.le_of_ble_eq_true rfl) rfl ?_
              refine VL.q (q_assign rfl) (by decide) ?_
              refine VL.to (fun _ _ h => h) ?_
              cases hS
              exact VC.ret (finG (vs := [.agg #[str [], i64 0, str []], i64 4]) (.inr rfl) rfl (RVs.cell gagg111 rfl rfl Rd.blk (RVs.tmp rfl (RVs.nil))) () rfl trivial (by (try dsimp only); exact InM.out) (fun _ _ => trivial))
            ·
              replace hS := it_f h47 hS
              refine VC.skip_to (fun _ _ h => h) ?_
              refine VC.seq ?_
              refine VC.region ?_
              refine VL.q (q_move rfl) (by decide) ?_
              refine VL.q (q_move rfl) (by decide) ?_
              refine VL.q (q_move rfl) (by decide) ?_
              obtain ⟨b52, hS⟩ := gd_s hS
              obtain ⟨y52_7, ey52_7, hS⟩ := lt_s hS
              refine VL.q (q_sfromE Tryz.underlying9 rfl rfl b52.1 b52.2 ey52_7) (by decide) ?_
              refine VL.q (q_build (vs := [(0, str y11_2.1), (1, i64 y27_5), (2, str y52_7)]) (cs := #[str y11_2.1, i64 y27_5, str y52_7]) rfl (by kernel_rfl)) (by decide) ?_
              refine VL.store (vc := [str y11_2.1, i64 y27_5, str y52_7]) (cs' := [str y11_2.1, i64 y27_5, str y52_7]) rfl rfl rfl gsz111 rfl rfl (Nat.le_of_ble_eq_true rfl) rfl ?_
              refine VL.q (q_assign rfl) (by decide) ?_
              refine VL.to (fun _ _ h => h) ?_
              refine VC.keep [2, 3] rfl ?_
              cases hS
              exact VC.ret (finG (vs := [.agg #[str y11_2.1, i64 y27_5, str y52_7], i64 0]) (.inr rfl) rfl (RVs.cell gagg111 rfl rfl Rd.blk (RVs.tmp rfl (RVs.nil))) () rfl trivial (by (try dsimp only); exact InM.out) (fun _ _ => trivial))

set_option maxHeartbeats 4000000 in
set_option maxRecDepth 100000 in
theorem rectoref3_At_ct (word_0 : Str) (at_1 : Int) (e_2 : Int) {r : Rectoref3WrongP} (hS : Sh.rectoref3_At word_0 at_1 e_2 = some r) :
    Ct Tryz.prog 32 [str word_0, i64 at_1, i64 e_2] Mo.tt (Ow.emp) (X := Rectoref3Wrong) (fun x => .agg (Dat.enc x).toArray) (fun x => r = x.pl) (fun x => x.m) (fun x => Ow.emp) := by
  refine Ct.of Tryz.func32 rfl (by kernel_rfl) Tryz.ntmps32 (by simp) fun c => ?_
  unfold Sh.rectoref3_At at hS
  refine VC.seq ?_
  refine VC.region ?_
  refine VL.alloc (cs := [.slice none 0 0, i64 0]) (by kernel_rfl) (by decide) fun b6_1 => ?_
  refine VL.to (fun _ _ h => h) ?_
  refine VC.seq ?_
  refine VC.region ?_
  refine VL.q (q_move rfl) (by decide) ?_
  refine VL.q (q_move rfl) (by decide) ?_
  refine VL.q (q_build (vs := [(0, str word_0), (1, i64 at_1)]) (cs := #[str word_0, i64 at_1]) rfl (by kernel_rfl)) (by decide) ?_
  refine VL.lit (α := Rectoref3Part) (xs := [.tmp 9]) (vs := [.agg #[str word_0, i64 at_1]]) [⟨word_0, at_1⟩] Tryz.underlying29 glit120 (by decide) rfl rfl rfl rfl (by decide) (fun _ _ _ _ => trivial) (by decide) (fun s10_2 hs10_2 => ?_) (by decide)
  replace hS := lt_to hs10_2 hS
  refine VL.q (q_move rfl) (by decide) ?_
  refine VL.q (q_build (vs := [(0, s10_2.val), (1, i64 e_2)]) (cs := #[s10_2.val, i64 e_2]) rfl (by kernel_rfl)) (by decide) ?_
  refine VL.store (vc := [s10_2.val, i64 e_2]) (cs' := [s10_2.val, i64 e_2]) rfl rfl rfl gsz31 rfl rfl (Nat.le_of_ble_eq_true rfl) rfl ?_
  refine VL.to (fun _ _ h => h) ?_
  cases hS
  exact VC.ret (finG (vs := [.agg #[s10_2.val, i64 e_2]]) (.inr rfl) rfl (RVs.cell gagg31 rfl rfl Rd.blk (RVs.nil)) ⟨s10_2, e_2⟩ rfl rfl (by (try dsimp only); exact InM.out) (fun _ _ => trivial))

set_option maxHeartbeats 4000000 in
set_option maxRecDepth 100000 in
theorem rectoref17_Parse_ct (s_0 : Str) {r : List Rectoref17Step × Rectoref3WrongP} (hS : Sh.rectoref17_Parse s_0 = some r) :
    Ct Tryz.prog 11 [str s_0] Mo.tt (Ow.emp) (X := Sv Rectoref17Step × Rectoref3Wrong) (fun x => .tuple #[x.1.val, .agg (Dat.enc x.2).toArray]) (fun x => r = (x.1.l, x.2.pl)) (fun x => x.2.m) (fun x => Sv.own x.1 111) := by
  refine Ct.of Tryz.func11 rfl (by kernel_rfl) Tryz.ntmps11 (by simp) fun c => ?_
  unfold Sh.rectoref17_Parse at hS
  refine VC.seq ?_
  refine VC.region ?_
  refine VL.q (q_assign rfl) (by decide) ?_
  refine VL.alloc (cs := [.slice none 0 0, i64 0]) (by kernel_rfl) (by decide) fun b3_1 => ?_
  refine VL.to (fun _ _ h => h) ?_
  refine VC.seq ?_
  refine VC.region ?_
  refine VL.q (q_move rfl) (by decide) ?_
  obtain ⟨y12_2, ey12_2, hS⟩ := bd_s hS
  refine VL.callO (rectoref17_Lines_ct s_0 ey12_2) rfl (by decide) ?_
  rintro q12_2_0 rfl
  try dsimp only
  refine VL.q (q_assign rfl) (by decide) ?_
  refine VL.to (fun _ _ h => h) ?_
  refine VC.seq ?_
  refine VC.region ?_
  refine VL.q (q_assign rfl) (by decide) ?_
  refine VL.to (fun _ _ h => h) ?_
  refine VC.seq ?_
  refine VC.seq ?_
  refine VC.region ?_
  refine VL.q (q_assign rfl) (by decide) ?_
  refine VL.to (fun _ _ h => h) ?_
  refine VC.block ?_
  refine VC.nilO (⟨none, 0, []⟩ : Sv Rectoref17Step) 111 ⟨rfl, rfl⟩ ?_
  refine VC.iter (S := Sv Rectoref17Step × Int) (fun sg => (sg.1.l, sg.2)) (fun sg => [(3, ptr b3_1 0), (4, q12_2_0.val), (5, sg.1.val), (6, i64 sg.2)]) (fun sg => Mo.tt) (fun sg => Ow.star (Blk b3_1 [.slice none 0 0, i64 0] 31) (Ow.star (Sv.own q12_2_0 9) (Ow.star (Sv.own sg.1 111) (Ow.emp)))) (⟨none, 0, []⟩, 0) [3, 4, 5, 6] hS rfl ?_
  clear hS
  rintro ⟨out5_3, i6_4⟩ m1 y1 hS hK1
  show VC _ _ _ _ _ [(3, ptr b3_1 0), (4, q12_2_0.val), (5, out5_3.val), (6, i64 i6_4)] (Mo.and Mo.tt _) (Ow.star (Blk b3_1 [.slice none 0 0, i64 0] 31) (Ow.star (Sv.own q12_2_0 9) (Ow.star (Sv.own out5_3 111) (Ow.emp))))
  refine VC.seq ?_
  refine VC.seq ?_
  refine VC.region ?_
  refine VL.q (q_move rfl) (by decide) ?_
  refine VL.q (q_move rfl) (by decide) ?_
  refine VL.q (q_ln (s := q12_2_0) Tryz.underlying43 rfl) (by decide) ?_
  refine VL.q (q_lss rfl rfl) (by decide) ?_
  refine VL.to (fun _ _ h => h) ?_
  refine VC.cond_dec rfl (fun h16 => ?_) (fun h16 => ?_)
  ·
    replace hS := it_t h16 hS
    refine VC.skip_to (fun _ _ h => h) ?_
    refine VC.cutJ (S := Sv Rectoref17Step) (fun (out5_5 : Sv Rectoref17Step) => out5_5.l) (fun (out5_5 : Sv Rectoref17Step) => [(3, ptr b3_1 0), (4, q12_2_0.val), (5, out5_5.val), (6, i64 i6_4)]) (fun (out5_5 : Sv Rectoref17Step) => Mo.tt) (fun (out5_5 : Sv Rectoref17Step) => Ow.star (Blk b3_1 [.slice none 0 0, i64 0] 31) (Ow.star (Sv.own q12_2_0 9) (Ow.star (Sv.own out5_5 111) (Ow.emp)))) hS ?_ ?_
    · -- up to where ways meet
      clear hS
      intro k6 hS
      refine VC.block ?_
      refine VC.seq ?_
      refine VC.region ?_
      refine VL.q (q_move rfl) (by decide) ?_
      refine VL.q (q_move rfl) (by decide) ?_
      obtain ⟨z22_7, nz22_7, hz22_7, hS⟩ := at_s hS
      refine VL.q (q_ixo (s := q12_2_0) Tryz.underlying43 gsz9 rfl rfl nz22_7 (lt_of_get nz22_7 hz22_7)) (by decide) ?_
      refine VL.q (q_elo (s := q12_2_0) 9 gone9 rfl hz22_7 rfl) (by decide) ?_
      obtain ⟨y24_8, ey24_8, hS⟩ := bd_s hS
      refine VL.q (q_call (rectoref17_word_ct z22_7 ey24_8) rfl (fun _ _ => rfl)) (by decide) ?_
      refine VL.q (q_move rfl) (by decide) ?_
      refine VL.q (q_extract rfl rfl) (by decide) ?_
      refine VL.q (q_extract rfl rfl) (by decide) ?_
      refine VL.q (q_assign rfl) (by decide) ?_
      refine VL.q (q_assign rfl) (by decide) ?_
      refine VL.to (fun _ _ h => h) ?_
      refine VC.keep [3, 4, 5, 6, 7] rfl ?_
      refine VC.seq ?_
      refine VC.seq ?_
      refine VC.region ?_
      refine VL.q (q_move rfl) (by decide) ?_
      refine VL.q (q_seq rfl rfl) (by decide) ?_
      refine VL.q (q_move rfl) (by decide) ?_
      refine VL.split_dec 29 rfl (fun h29 => ?_) (fun h29 => ?_)
      ·
        replace hS := it_t h29 hS
        refine VL.gn rfl rfl rfl (by decide) ?_
        refine VL.gn rfl rfl rfl (by decide) ?_
        refine VL.gn rfl rfl rfl (by decide) ?_
        refine VL.q (q_pick_t rfl rfl) (by decide) ?_
        refine VL.to (fun _ _ h => h) ?_
        refine VC.keep [3, 4, 5, 6, 33] rfl ?_
        refine VC.cond_t rfl ?_
        refine VC.exit_mt out5_3 [3, 4, 5, 6] (fun _ _ h => h) hS rfl
      ·
        replace hS := it_f h29 hS
        refine VL.gy rfl rfl (q_move rfl) (by decide) ?_
        obtain ⟨z31_9, nz31_9, hz31_9, hS⟩ := at_s hS
        refine VL.gy rfl rfl (q_sidx Tryz.underlying9 rfl rfl nz31_9 hz31_9) (by decide) ?_
        refine VL.gy rfl rfl (q_eql rfl rfl) (by decide) ?_
        refine VL.q (q_pick_f rfl rfl) (by decide) ?_
        refine VL.to (fun _ _ h => h) ?_
        refine VC.keep [3, 4, 5, 6, 33] rfl ?_
        refine VC.cond_dec rfl (fun h33 => ?_) (fun h33 => ?_)
        ·
          replace hS := it_t h33 hS
          refine VC.exit_mt out5_3 [3, 4, 5, 6] (fun _ _ h => h) hS rfl
        ·
          replace hS := it_f h33 hS
          refine VC.skip_to (fun _ _ h => h) ?_
          refine VC.seq ?_
          refine VC.region ?_
          refine VL.q (q_move rfl) (by decide) ?_
          refine VL.q (q_move rfl) (by decide) ?_
          obtain ⟨z37_10, nz37_10, hz37_10, hS⟩ := at_s hS
          refine VL.q (q_ixo (s := q12_2_0) Tryz.underlying43 gsz9 rfl rfl nz37_10 (lt_of_get nz37_10 hz37_10)) (by decide) ?_
          refine VL.q (q_elo (s := q12_2_0) 9 gone9 rfl hz37_10 rfl) (by decide) ?_
          obtain ⟨y39_11, ey39_11, hS⟩ := bd_s hS
          refine VL.q (q_call (rectoref17_step_ct z37_10 ey39_11) rfl (fun _ _ => rfl)) (by decide) ?_
          refine VL.q (q_move rfl) (by decide) ?_
          refine VL.q (q_extract rfl rfl) (by decide) ?_
          refine VL.q (q_extract rfl rfl) (by decide) ?_
          refine VL.alloc (cs := [str [], i64 0, str []]) (by kernel_rfl) (by decide) fun b9_12 => ?_
          refine VL.store (vc := [str y39_11.1.verb, i64 y39_11.1.commit, str y39_11.1.text]) (cs' := [str y39_11.1.verb, i64 y39_11.1.commit, str y39_11.1.text]) rfl rfl rfl gsz111 rfl rfl (Nat.le_of_ble_eq_true rfl) rfl ?_
          refine VL.q (q_assign rfl) (by decide) ?_
          refine VL.to (fun _ _ h => h) ?_
          refine VC.keep [3, 4, 5, 6, 9, 10] rfl ?_
          refine VC.seq ?_
          refine VC.seq ?_
          refine VC.region ?_
          refine VL.q (q_move rfl) (by decide) ?_
          refine VL.q (q_neq rfl rfl) (by decide) ?_
          refine VL.to (fun _ _ h => h) ?_
          refine VC.cond_ndec rfl (fun h43 => ?_) (fun h43 => ?_)
          ·
            replace hS := it_f h43 hS
            refine VC.seq ?_
            refine VC.region ?_
            refine VL.q (q_move rfl) (by decide) ?_
            refine VL.q (q_move rfl) (by decide) ?_
            obtain ⟨y46_13, ey46_13, hS⟩ := bd_s hS
            refine VL.callF (rectoref3_At_ct [108, 105, 110, 101] i6_4 y39_11.2 ey46_13) rfl (by decide) ?_
            rintro q46_13_0 rfl
            try dsimp only
            refine VL.q (q_assign rfl) (by decide) ?_
            refine VL.store (vc := [q46_13_0.parts.val, i64 q46_13_0.err]) (cs' := [q46_13_0.parts.val, i64 q46_13_0.err]) rfl rfl rfl gsz31 rfl rfl (Nat.le_of_ble_eq_true rfl) rfl ?_
            refine VL.to (fun _ _ h => h) ?_
            refine VC.keep [3, 2] rfl ?_
            replace hS := up2 hS hK1
            refine VC.nilO (⟨none, 0, []⟩ : Sv Rectoref17Step) 111 ⟨rfl, rfl⟩ ?_
            cases hS
            exact VC.ret (finG (vs := [.slice none 0 0, .agg #[q46_13_0.parts.val, i64 q46_13_0.err]]) (.inr rfl) rfl (RVs.tmp rfl (RVs.cell gagg31 rfl rfl Rd.blk (RVs.nil))) (⟨none, 0, []⟩, ⟨q46_13_0.parts, q46_13_0.err⟩) rfl rfl (by (try dsimp only); exact InM.out) (by (try dsimp only); exact EntO.out))
          ·
            replace hS := it_t h43 hS
            refine VC.skip_to (fun _ _ h => h) ?_
            refine VC.seq ?_
            refine VC.seq ?_
            refine VC.region ?_
            refine VL.q (q_move rfl) (by decide) ?_
            refine VL.q (q_ln (s := out5_3) Tryz.underlying28 rfl) (by decide) ?_
            refine VL.q (q_eql rfl rfl) (by decide) ?_
            refine VL.to (fun _ _ h => h) ?_
            refine VC.cond_dec rfl (fun h49 => ?_) (fun h49 => ?_)
            ·
              replace hS := it_t h49 hS
              refine VC.seq ?_
              refine VC.region ?_
              obtain ⟨y50_14, ey50_14, hS⟩ := bd_s hS
              refine VL.callF (rectoref3_At_ct [108, 105, 110, 101] 32 4 ey50_14) rfl (by decide) ?_
              rintro q50_14_0 rfl
              try dsimp only
              refine VL.q (q_assign rfl) (by decide) ?_
              refine VL.store (vc := [q50_14_0.parts.val, i64 q50_14_0.err]) (cs' := [q50_14_0.parts.val, i64 q50_14_0.err]) rfl rfl rfl gsz31 rfl rfl (Nat.le_of_ble_eq_true rfl) rfl ?_
              refine VL.to (fun _ _ h => h) ?_
              refine VC.keep [3, 2] rfl ?_
              replace hS := up2 hS hK1
              refine VC.nilO (⟨none, 0, []⟩ : Sv Rectoref17Step) 111 ⟨rfl, rfl⟩ ?_
              cases hS
              exact VC.ret (finG (vs := [.slice none 0 0, .agg #[q50_14_0.parts.val, i64 q50_14_0.err]]) (.inr rfl) rfl (RVs.tmp rfl (RVs.cell gagg31 rfl rfl Rd.blk (RVs.nil))) (⟨none, 0, []⟩, ⟨q50_14_0.parts, q50_14_0.err⟩) rfl rfl (by (try dsimp only); exact InM.out) (by (try dsimp only); exact EntO.out))
            ·
              replace hS := it_f h49 hS
              refine VC.skip_to (fun _ _ h => h) ?_
              refine VC.region ?_
              refine VL.q (q_move rfl) (by decide) ?_
              refine VL.q (q_fes gagg111 rfl rfl) (by decide) ?_
              refine VL.lit (α := Rectoref17Step) (xs := [.tmp 52]) (vs := [.agg #[str y39_11.1.verb, i64 y39_11.1.commit, str y39_11.1.text]]) [⟨y39_11.1.verb, y39_11.1.commit, y39_11.1.text⟩] Tryz.underlying28 glit111 (by decide) rfl rfl rfl rfl (by decide) (fun _ _ _ _ => trivial) (by decide) (fun s53_15 hs53_15 => ?_) (by decide)
              replace hS := lt_to hs53_15 hS
              obtain ⟨b54, hS⟩ := gd_s hS
              refine VL.app (s := out5_3) (r := s53_15) Tryz.underlying28 gapp111 (by decide) rfl Fo.out (ap1 b54) (ap2 b54 (by decide)) (by decide) (fun s54_17 hs54_17 => ?_)
              replace hS := lt_to hs54_17 hS
              refine VL.q (q_assign rfl) (by decide) ?_
              refine VL.mt s54_17 [3, 4, 5, 6] (fun _ _ h => h) hS rfl
    · -- from there
      clear hS
      rintro out5_5 hS
      show VC _ _ _ _ _ [(3, ptr b3_1 0), (4, q12_2_0.val), (5, out5_5.val), (6, i64 i6_4)] (Mo.and Mo.tt _) (Ow.star (Blk b3_1 [.slice none 0 0, i64 0] 31) (Ow.star (Sv.own q12_2_0 9) (Ow.star (Sv.own out5_5 111) (Ow.emp))))
      refine VC.region ?_
      refine VL.q (q_move rfl) (by decide) ?_
      obtain ⟨b18, hS⟩ := gd_s hS
      refine VL.q (q_add rfl rfl b18) (by decide) ?_
      refine VL.q (q_assign rfl) (by decide) ?_
      refine VL.rnd (out5_5, (i6_4 + 1)) [3, 4, 5, 6] (fun _ _ h => h) (go2 hS hK1) rfl
  ·
    replace hS := it_f h16 hS
    replace hS := up2 hS hK1
    refine VC.exit_to (fun _ _ h => h) ?_
    refine VC.seq ?_
    refine VC.region ?_
    refine VL.q (q_move rfl) (by decide) ?_
    refine VL.q (q_build (vs := []) (cs := #[.slice none 0 0, i64 0]) rfl (by kernel_rfl)) (by decide) ?_
    refine VL.q (q_assign rfl) (by decide) ?_
    refine VL.store (vc := [.slice none 0 0, i64 0]) (cs' := [.slice none 0 0, i64 0]) rfl rfl rfl gsz31 rfl rfl (Nat.le_of_ble_eq_true rfl) rfl ?_
    refine VL.to (fun _ _ h => h) ?_
    refine VC.keep [3, 2] rfl ?_
    cases hS
    exact VC.ret (finG (vs := [out5_3.val, .agg #[.slice none 0 0, i64 0]]) (.inr rfl) rfl (RVs.tmp rfl (RVs.cell gagg31 rfl rfl Rd.blk (RVs.nil))) (out5_3, ⟨⟨none, 0, []⟩, 0⟩) rfl rfl (by (try dsimp only); exact InM.out) (by (try dsimp only); exact EntO.out))

set_option maxHeartbeats 4000000 in
set_option maxRecDepth 100000 in
theorem api_Errno_Error_ct (e_0 : Int) {r : Str} (hS : Sh.api_Errno_Error e_0 = some r) :
    Ct Tryz.prog 262 [i64 e_0] Mo.tt (Ow.emp) (X := Unit) (fun _ => str r) (fun _ => True) (fun _ => Mo.tt) (fun _ => Ow.emp) := by
  refine Ct.of Tryz.func262 rfl (by kernel_rfl) Tryz.ntmps262 (by simp) fun c => ?_
  unfold Sh.api_Errno_Error at hS
  refine VC.seq ?_
  refine VC.region ?_
  refine VL.q (q_assign rfl) (by decide) ?_
  refine VL.to (fun _ _ h => h) ?_
  refine VC.seq ?_
  refine VC.seq ?_
  refine VC.region ?_
  refine VL.q (q_move rfl) (by decide) ?_
  refine VL.to (fun _ _ h => h) ?_
  refine VC.block ?_
  refine VC.seq ?_
  refine VC.region ?_
  refine VL.q (q_eql rfl rfl) (by decide) ?_
  refine VL.q (q_assign rfl) (by decide) ?_
  refine VL.to (fun _ _ h => h) ?_
  refine VC.cond_dec rfl (fun h4 => ?_) (fun h4 => ?_)
  ·
    replace hS := it_t h4 hS
    refine VC.seq ?_
    refine VC.region ?_
    refine VL.q (q_assign rfl) (by decide) ?_
    refine VL.to (fun _ _ h => h) ?_
    cases hS
    exact VC.ret (fin1 (.inr rfl) rfl rfl () rfl trivial (fun _ _ => trivial) (fun _ _ => trivial))
  ·
    replace hS := it_f h4 hS
    refine VC.seq ?_
    refine VC.region ?_
    refine VL.q (q_eql rfl rfl) (by decide) ?_
    refine VL.q (q_assign rfl) (by decide) ?_
    refine VL.to (fun _ _ h => h) ?_
    refine VC.cond_dec rfl (fun h6 => ?_) (fun h6 => ?_)
    ·
      replace hS := it_t h6 hS
      refine VC.seq ?_
      refine VC.region ?_
      refine VL.q (q_assign rfl) (by decide) ?_
      refine VL.to (fun _ _ h => h) ?_
      cases hS
      exact VC.ret (fin1 (.inr rfl) rfl rfl () rfl trivial (fun _ _ => trivial) (fun _ _ => trivial))
    ·
      replace hS := it_f h6 hS
      refine VC.seq ?_
      refine VC.region ?_
      refine VL.q (q_eql rfl rfl) (by decide) ?_
      refine VL.q (q_assign rfl) (by decide) ?_
      refine VL.to (fun _ _ h => h) ?_
      refine VC.cond_dec rfl (fun h8 => ?_) (fun h8 => ?_)
      ·
        replace hS := it_t h8 hS
        refine VC.seq ?_
        refine VC.region ?_
        refine VL.q (q_assign rfl) (by decide) ?_
        refine VL.to (fun _ _ h => h) ?_
        cases hS
        exact VC.ret (fin1 (.inr rfl) rfl rfl () rfl trivial (fun _ _ => trivial) (fun _ _ => trivial))
      ·
        replace hS := it_f h8 hS
        refine VC.seq ?_
        refine VC.region ?_
        refine VL.q (q_eql rfl rfl) (by decide) ?_
        refine VL.q (q_assign rfl) (by decide) ?_
        refine VL.to (fun _ _ h => h) ?_
        refine VC.keep [3, 10] rfl ?_
        refine VC.cond_dec rfl (fun h10 => ?_) (fun h10 => ?_)
        ·
          replace hS := it_t h10 hS
          refine VC.seq ?_
          refine VC.region ?_
          refine VL.q (q_assign rfl) (by decide) ?_
          refine VL.to (fun _ _ h => h) ?_
          cases hS
          exact VC.ret (fin1 (.inr rfl) rfl rfl () rfl trivial (fun _ _ => trivial) (fun _ _ => trivial))
        ·
          replace hS := it_f h10 hS
          refine VC.seq ?_
          refine VC.region ?_
          refine VL.q (q_eql rfl rfl) (by decide) ?_
          refine VL.q (q_assign rfl) (by decide) ?_
          refine VL.to (fun _ _ h => h) ?_
          refine VC.cond_dec rfl (fun h12 => ?_) (fun h12 => ?_)
          ·
            replace hS := it_t h12 hS
            refine VC.seq ?_
            refine VC.region ?_
            refine VL.q (q_assign rfl) (by decide) ?_
            refine VL.to (fun _ _ h => h) ?_
            cases hS
            exact VC.ret (fin1 (.inr rfl) rfl rfl () rfl trivial (fun _ _ => trivial) (fun _ _ => trivial))
          ·
            replace hS := it_f h12 hS
            refine VC.seq ?_
            refine VC.region ?_
            refine VL.q (q_eql rfl rfl) (by decide) ?_
            refine VL.q (q_assign rfl) (by decide) ?_
            refine VL.to (fun _ _ h => h) ?_
            refine VC.cond_dec rfl (fun h14 => ?_) (fun h14 => ?_)
            ·
              replace hS := it_t h14 hS
              refine VC.seq ?_
              refine VC.region ?_
              refine VL.q (q_assign rfl) (by decide) ?_
              refine VL.to (fun _ _ h => h) ?_
              cases hS
              exact VC.ret (fin1 (.inr rfl) rfl rfl () rfl trivial (fun _ _ => trivial) (fun _ _ => trivial))
            ·
              replace hS := it_f h14 hS
              refine VC.seq ?_
              refine VC.region ?_
              refine VL.q (q_eql rfl rfl) (by decide) ?_
              refine VL.q (q_assign rfl) (by decide) ?_
              refine VL.to (fun _ _ h => h) ?_
              refine VC.cond_dec rfl (fun h16 => ?_) (fun h16 => ?_)
              ·
                replace hS := it_t h16 hS
                refine VC.seq ?_
                refine VC.region ?_
                refine VL.q (q_assign rfl) (by decide) ?_
                refine VL.to (fun _ _ h => h) ?_
                cases hS
                exact VC.ret (fin1 (.inr rfl) rfl rfl () rfl trivial (fun _ _ => trivial) (fun _ _ => trivial))
              ·
                replace hS := it_f h16 hS
                refine VC.seq ?_
                refine VC.region ?_
                refine VL.q (q_eql rfl rfl) (by decide) ?_
                refine VL.q (q_assign rfl) (by decide) ?_
                refine VL.to (fun _ _ h => h) ?_
                refine VC.cond_dec rfl (fun h18 => ?_) (fun h18 => ?_)
                ·
                  replace hS := it_t h18 hS
                  refine VC.seq ?_
                  refine VC.region ?_
                  refine VL.q (q_assign rfl) (by decide) ?_
                  refine VL.to (fun _ _ h => h) ?_
                  refine VC.keep [2] rfl ?_
                  cases hS
                  exact VC.ret (fin1 (.inr rfl) rfl rfl () rfl trivial (fun _ _ => trivial) (fun _ _ => trivial))
                ·
                  replace hS := it_f h18 hS
                  refine VC.seq ?_
                  refine VC.region ?_
                  refine VL.q (q_eql rfl rfl) (by decide) ?_
                  refine VL.q (q_assign rfl) (by decide) ?_
                  refine VL.to (fun _ _ h => h) ?_
                  refine VC.keep [3, 20] rfl ?_
                  refine VC.cond_dec rfl (fun h20 => ?_) (fun h20 => ?_)
                  ·
                    replace hS := it_t h20 hS
                    refine VC.seq ?_
                    refine VC.region ?_
                    refine VL.q (q_assign rfl) (by decide) ?_
                    refine VL.to (fun _ _ h => h) ?_
                    cases hS
                    exact VC.ret (fin1 (.inr rfl) rfl rfl () rfl trivial (fun _ _ => trivial) (fun _ _ => trivial))
                  ·
                    replace hS := it_f h20 hS
                    refine VC.seq ?_
                    refine VC.region ?_
                    refine VL.q (q_eql rfl rfl) (by decide) ?_
                    refine VL.q (q_assign rfl) (by decide) ?_
                    refine VL.to (fun _ _ h => h) ?_
                    refine VC.cond_dec rfl (fun h22 => ?_) (fun h22 => ?_)
                    ·
                      replace hS := it_t h22 hS
                      refine VC.seq ?_
                      refine VC.region ?_
                      refine VL.q (q_assign rfl) (by decide) ?_
                      refine VL.to (fun _ _ h => h) ?_
                      cases hS
                      exact VC.ret (fin1 (.inr rfl) rfl rfl () rfl trivial (fun _ _ => trivial) (fun _ _ => trivial))
                    ·
                      replace hS := it_f h22 hS
                      refine VC.seq ?_
                      refine VC.region ?_
                      refine VL.q (q_eql rfl rfl) (by decide) ?_
                      refine VL.q (q_assign rfl) (by decide) ?_
                      refine VL.to (fun _ _ h => h) ?_
                      refine VC.cond_dec rfl (fun h24 => ?_) (fun h24 => ?_)
                      ·
                        replace hS := it_t h24 hS
                        refine VC.seq ?_
                        refine VC.region ?_
                        refine VL.q (q_assign rfl) (by decide) ?_
                        refine VL.to (fun _ _ h => h) ?_
                        cases hS
                        exact VC.ret (fin1 (.inr rfl) rfl rfl () rfl trivial (fun _ _ => trivial) (fun _ _ => trivial))
                      ·
                        replace hS := it_f h24 hS
                        refine VC.seq ?_
                        refine VC.region ?_
                        refine VL.q (q_eql rfl rfl) (by decide) ?_
                        refine VL.q (q_assign rfl) (by decide) ?_
                        refine VL.to (fun _ _ h => h) ?_
                        refine VC.cond_dec rfl (fun h26 => ?_) (fun h26 => ?_)
                        ·
                          replace hS := it_t h26 hS
                          refine VC.seq ?_
                          refine VC.region ?_
                          refine VL.q (q_assign rfl) (by decide) ?_
                          refine VL.to (fun _ _ h => h) ?_
                          cases hS
                          exact VC.ret (fin1 (.inr rfl) rfl rfl () rfl trivial (fun _ _ => trivial) (fun _ _ => trivial))
                        ·
                          replace hS := it_f h26 hS
                          refine VC.seq ?_
                          refine VC.region ?_
                          refine VL.q (q_eql rfl rfl) (by decide) ?_
                          refine VL.q (q_assign rfl) (by decide) ?_
                          refine VL.to (fun _ _ h => h) ?_
                          refine VC.cond_dec rfl (fun h28 => ?_) (fun h28 => ?_)
                          ·
                            replace hS := it_t h28 hS
                            refine VC.seq ?_
                            refine VC.region ?_
                            refine VL.q (q_assign rfl) (by decide) ?_
                            refine VL.to (fun _ _ h => h) ?_
                            refine VC.keep [2] rfl ?_
                            cases hS
                            exact VC.ret (fin1 (.inr rfl) rfl rfl () rfl trivial (fun _ _ => trivial) (fun _ _ => trivial))
                          ·
                            replace hS := it_f h28 hS
                            refine VC.seq ?_
                            refine VC.region ?_
                            refine VL.q (q_eql rfl rfl) (by decide) ?_
                            refine VL.q (q_assign rfl) (by decide) ?_
                            refine VL.to (fun _ _ h => h) ?_
                            refine VC.keep [3, 30] rfl ?_
                            refine VC.cond_dec rfl (fun h30 => ?_) (fun h30 => ?_)
                            ·
                              replace hS := it_t h30 hS
                              refine VC.seq ?_
                              refine VC.region ?_
                              refine VL.q (q_assign rfl) (by decide) ?_
                              refine VL.to (fun _ _ h => h) ?_
                              cases hS
                              exact VC.ret (fin1 (.inr rfl) rfl rfl () rfl trivial (fun _ _ => trivial) (fun _ _ => trivial))
                            ·
                              replace hS := it_f h30 hS
                              refine VC.seq ?_
                              refine VC.region ?_
                              refine VL.q (q_eql rfl rfl) (by decide) ?_
                              refine VL.q (q_assign rfl) (by decide) ?_
                              refine VL.to (fun _ _ h => h) ?_
                              refine VC.cond_dec rfl (fun h32 => ?_) (fun h32 => ?_)
                              ·
                                replace hS := it_t h32 hS
                                refine VC.seq ?_
                                refine VC.region ?_
                                refine VL.q (q_assign rfl) (by decide) ?_
                                refine VL.to (fun _ _ h => h) ?_
                                cases hS
                                exact VC.ret (fin1 (.inr rfl) rfl rfl () rfl trivial (fun _ _ => trivial) (fun _ _ => trivial))
                              ·
                                replace hS := it_f h32 hS
                                refine VC.skip_to (fun _ _ h => h) ?_
                                refine VC.seq ?_
                                refine VC.region ?_
                                refine VL.q (q_assign rfl) (by decide) ?_
                                refine VL.to (fun _ _ h => h) ?_
                                cases hS
                                exact VC.ret (fin1 (.inr rfl) rfl rfl () rfl trivial (fun _ _ => trivial) (fun _ _ => trivial))

set_option maxHeartbeats 4000000 in
set_option maxRecDepth 100000 in
theorem api_Fault_Error_ct (f_0_b : Nat) (f_0 : ApiFault) {E : Option Str} (ih : ∀ {y : Str}, E = some y → Says Tryz.prog f_0.err.val "Error" (f_0.err.ok.and Gl) (str y)) {r : Str} (hS : Sh.api_Fault_Error f_0.pl E = some r) :
    Ct Tryz.prog 263 [ptr f_0_b 0] (f_0.err.ok.and ((Cells f_0_b 0 [str f_0.part, i64 f_0.at_, f_0.err.val]).and Gl)) (Ow.emp) (X := Unit) (fun _ => str r) (fun _ => True) (fun _ => Mo.tt) (fun _ => Ow.emp) := by
  refine Ct.of Tryz.func263 rfl (by kernel_rfl) Tryz.ntmps263 (by simp) fun c => ?_
  unfold Sh.api_Fault_Error at hS
  refine VC.seq ?_
  refine VC.region ?_
  refine VL.q (q_assign rfl) (by decide) ?_
  refine VL.to (fun _ _ h => h) ?_
  refine VC.seq ?_
  refine VC.seq ?_
  refine VC.region ?_
  refine VL.q (q_move rfl) (by decide) ?_
  refine VL.q (q_nilCheck rfl) (by decide) ?_
  refine VL.q (q_field gfa107_2 rfl) (by decide) ?_
  refine VL.q (q_fm gone25 rfl rfl) (by decide) ?_
  refine VL.q (q_ereq Tryz.underlying25 rfl) (by decide) ?_
  refine VL.to (fun _ _ h => h) ?_
  refine VC.cond_dec rfl (fun h7 => ?_) (fun h7 => ?_)
  ·
    replace hS := it_t h7 hS
    refine VC.seq ?_
    refine VC.draw ((List.range 12).map fun k => (k, true)) mixed (by kernel_rfl) (by kernel_rfl) (by kernel_rfl) ?_
    refine VD.q rfl (q_move rfl) (by decide) ?_
    refine VD.q rfl (q_nilCheck rfl) (by decide) ?_
    refine VD.q rfl (q_field gfa107_0 rfl) (by decide) ?_
    refine VD.q rfl (q_fm gone9 rfl rfl) (by decide) ?_
    obtain ⟨b12, hS⟩ := gd_s hS
    obtain ⟨y12_1, ey12_1, hS⟩ := lt_s hS
    refine VD.q rfl (q_catE rfl rfl b12 ey12_1) (by decide) ?_
    refine VD.q rfl (q_move rfl) (by decide) ?_
    refine VD.q rfl (q_nilCheck rfl) (by decide) ?_
    refine VD.q rfl (q_field gfa107_1 rfl) (by decide) ?_
    refine VD.q rfl (q_fm gone3 rfl rfl) (by decide) ?_
    obtain ⟨b17, hS⟩ := gd_s hS
    refine VD.q rfl (q_call (itoa_ct f_0.at_ b17) rfl (fun _ _ => rfl)) (by decide) ?_
    obtain ⟨b18, hS⟩ := gd_s hS
    obtain ⟨y18_2, ey18_2, hS⟩ := lt_s hS
    refine VD.q rfl (q_catE rfl rfl b18 ey18_2) (by decide) ?_
    refine VD.q rfl (q_assign rfl) (by decide) ?_
    refine VD.to (fun _ _ h => h) ?_
    refine VC.keep [2] rfl ?_
    cases hS
    exact VC.ret (fin1 (.inr rfl) rfl rfl () rfl trivial (fun _ _ => trivial) (fun _ _ => trivial))
  ·
    replace hS := it_f h7 hS
    refine VC.skip_to (fun _ _ h => h) ?_
    refine VC.seq ?_
    refine VC.draw ((List.range 19).map fun k => (k, true)) mixed (by kernel_rfl) (by kernel_rfl) (by kernel_rfl) ?_
    refine VD.q rfl (q_move rfl) (by decide) ?_
    refine VD.q rfl (q_nilCheck rfl) (by decide) ?_
    refine VD.q rfl (q_field gfa107_0 rfl) (by decide) ?_
    refine VD.q rfl (q_fm gone9 rfl rfl) (by decide) ?_
    obtain ⟨b23, hS⟩ := gd_s hS
    obtain ⟨y23_3, ey23_3, hS⟩ := lt_s hS
    refine VD.q rfl (q_catE rfl rfl b23 ey23_3) (by decide) ?_
    refine VD.q rfl (q_move rfl) (by decide) ?_
    refine VD.q rfl (q_nilCheck rfl) (by decide) ?_
    refine VD.q rfl (q_field gfa107_1 rfl) (by decide) ?_
    refine VD.q rfl (q_fm gone3 rfl rfl) (by decide) ?_
    obtain ⟨b28, hS⟩ := gd_s hS
    refine VD.q rfl (q_call (itoa_ct f_0.at_ b28) rfl (fun _ _ => rfl)) (by decide) ?_
    obtain ⟨b29, hS⟩ := gd_s hS
    obtain ⟨y29_4, ey29_4, hS⟩ := lt_s hS
    refine VD.q rfl (q_catE rfl rfl b29 ey29_4) (by decide) ?_
    obtain ⟨b30, hS⟩ := gd_s hS
    obtain ⟨y30_5, ey30_5, hS⟩ := lt_s hS
    refine VD.q rfl (q_catE rfl rfl b30 ey30_5) (by decide) ?_
    refine VD.q rfl (q_move rfl) (by decide) ?_
    refine VD.q rfl (q_nilCheck rfl) (by decide) ?_
    refine VD.q rfl (q_field gfa107_2 rfl) (by decide) ?_
    refine VD.q rfl (q_fm gone25 rfl rfl) (by decide) ?_
    obtain ⟨y35_6, ey35_6, hS⟩ := bd_s hS
    refine VD.q rfl (q_say rfl (ih ey35_6)) (by decide) ?_
    obtain ⟨b36, hS⟩ := gd_s hS
    obtain ⟨y36_7, ey36_7, hS⟩ := lt_s hS
    refine VD.q rfl (q_catE rfl rfl b36 ey36_7) (by decide) ?_
    refine VD.q rfl (q_assign rfl) (by decide) ?_
    refine VD.to (fun _ _ h => h) ?_
    refine VC.keep [2] rfl ?_
    cases hS
    exact VC.ret (fin1 (.inr rfl) rfl rfl () rfl trivial (fun _ _ => trivial) (fun _ _ => trivial))

theorem fault_me (v : Value) : Meth Tryz.prog (.iface 105 v) "Error" 263 v := Meth.of fun w => by kernel_rfl
theorem errno_me (v : Value) : Meth Tryz.prog (.iface 102 v) "Error" 262 v := Meth.of fun w => by kernel_rfl
theorem text_says : ∀ (z : Er) {r : Str} (h : Sh.erText z.pl = some r), Says Tryz.prog z.val "Error" (z.ok.and Gl) (str r)
  | .nil, r, h => by cases h
  | .no n, r, h => ⟨262, i64 n, errno_me _, (api_Errno_Error_ct n h).weak (fun _ _ => trivial) (fun _ q => q)⟩
  | .fault b p a e, r, h => ⟨263, ptr b 0, fault_me _, (api_Fault_Error_ct b ⟨p, a, e⟩ (E := Sh.erText e.pl) (fun q => text_says e q) h).weak (fun _ m => ⟨m.1.2, m.1.1, m.2⟩) (fun _ q => q)⟩

set_option maxHeartbeats 4000000 in
set_option maxRecDepth 100000 in
theorem rectoref3_Decimal_r_ct (n_0 : Int) {r : Str} (hS : Sh.rectoref3_Decimal_r n_0 = some r) :
    Ct Tryz.prog 63 [i64 n_0] Mo.tt (Ow.emp) (X := Unit) (fun _ => str r) (fun _ => True) (fun _ => Mo.tt) (fun _ => Ow.emp) := by
  refine Ct.of Tryz.func63 rfl (by kernel_rfl) Tryz.ntmps63 (by simp) fun c => ?_
  unfold Sh.rectoref3_Decimal_r at hS
  refine VC.seq ?_
  refine VC.region ?_
  refine VL.q (q_assign rfl) (by decide) ?_
  refine VL.to (fun _ _ h => h) ?_
  refine VC.seq ?_
  refine VC.seq ?_
  refine VC.region ?_
  refine VL.q (q_move rfl) (by decide) ?_
  refine VL.q (q_lss rfl rfl) (by decide) ?_
  refine VL.to (fun _ _ h => h) ?_
  refine VC.cond_dec rfl (fun h5 => ?_) (fun h5 => ?_)
  ·
    replace hS := it_t h5 hS
    refine VC.seq ?_
    refine VC.seq ?_
    refine VC.region ?_
    refine VL.q (q_move rfl) (by decide) ?_
    refine VL.q (q_eql rfl rfl) (by decide) ?_
    refine VL.to (fun _ _ h => h) ?_
    refine VC.cond_dec rfl (fun h7 => ?_) (fun h7 => ?_)
    ·
      replace hS := it_t h7 hS
      refine VC.seq ?_
      refine VC.region ?_
      refine VL.q (q_assign rfl) (by decide) ?_
      refine VL.to (fun _ _ h => h) ?_
      cases hS
      exact VC.ret (fin1 (.inr rfl) rfl rfl () rfl trivial (fun _ _ => trivial) (fun _ _ => trivial))
    ·
      replace hS := it_f h7 hS
      refine VC.skip_to (fun _ _ h => h) ?_
      refine VC.seq ?_
      refine VC.region ?_
      refine VL.q (q_move rfl) (by decide) ?_
      obtain ⟨b9, hS⟩ := gd_s hS
      refine VL.q (q_sub rfl rfl b9) (by decide) ?_
      cases hS
  ·
    replace hS := it_f h5 hS
    refine VC.skip_to (fun _ _ h => h) ?_
    refine VC.seq ?_
    refine VC.region ?_
    refine VL.q (q_move rfl) (by decide) ?_
    obtain ⟨b13, hS⟩ := gd_s hS
    refine VL.q (q_rem rfl rfl b13) (by decide) ?_
    obtain ⟨b14, hS⟩ := gd_s hS
    refine VL.q (q_add rfl rfl b14) (by decide) ?_
    obtain ⟨b15, hS⟩ := gd_s hS
    refine VL.q (q_conv Tryz.underlying3 Tryz.underlying5 rfl (wu8_in b15)) (by decide) ?_
    obtain ⟨b16_15, hS⟩ := gd_s hS
    obtain ⟨u16_2, eu16_2, hS⟩ := lt_s hS
    refine VL.setv 15 rfl (congrArg (Value.int .u8) (u8_z b16_15 eu16_2)) ?_
    refine VL.lit (α := UInt8) (xs := [.tmp 15]) (vs := [.int .u8 (u16_2.toNat : Int)]) [u16_2] Tryz.underlying51 glit5 (by decide) rfl rfl rfl rfl (by decide) (fun _ _ _ _ => trivial) (by decide) (fun s16_1 hs16_1 => ?_) (by decide)
    replace hS := lt_to hs16_1 hS
    refine VL.q (q_b2s (s := s16_1) Tryz.underlying51 Tryz.underlying5 Tryz.underlying9 rfl) (by decide) ?_
    refine VL.q (q_assign rfl) (by decide) ?_
    refine VL.to (fun _ _ h => h) ?_
    refine VC.keep [0, 3] rfl ?_
    refine VC.seq ?_
    refine VC.block ?_
    refine VC.iter (S := Int × Str) (fun sg => (sg.1, sg.2)) (fun sg => [(0, i64 sg.1), (3, str sg.2)]) (fun sg => Mo.tt) (fun sg => Ow.emp) (n_0, s16_1.l) [0, 3] hS rfl ?_
    clear hS
    rintro ⟨n0_4, s3_5⟩ m1 y1 hS hK1
    show VC _ _ _ _ _ [(0, i64 n0_4), (3, str s3_5)] (Mo.and Mo.tt _) (Ow.emp)
    refine VC.seq ?_
    refine VC.seq ?_
    refine VC.region ?_
    refine VL.q (q_move rfl) (by decide) ?_
    refine VL.q (q_geq rfl rfl) (by decide) ?_
    refine VL.to (fun _ _ h => h) ?_
    refine VC.cond_dec rfl (fun h19 => ?_) (fun h19 => ?_)
    ·
      replace hS := it_t h19 hS
      refine VC.skip_to (fun _ _ h => h) ?_
      refine VC.block ?_
      refine VC.seq ?_
      refine VC.region ?_
      refine VL.q (q_move rfl) (by decide) ?_
      obtain ⟨b21, hS⟩ := gd_s hS
      refine VL.q (q_quo rfl rfl b21.1 (wi64_in b21.2)) (by decide) ?_
      refine VL.q (q_assign rfl) (by decide) ?_
      refine VL.to (fun _ _ h => h) ?_
      refine VC.region ?_
      refine VL.q (q_move rfl) (by decide) ?_
      obtain ⟨b23, hS⟩ := gd_s hS
      refine VL.q (q_rem rfl rfl b23) (by decide) ?_
      obtain ⟨b24, hS⟩ := gd_s hS
      refine VL.q (q_add rfl rfl b24) (by decide) ?_
      obtain ⟨b25, hS⟩ := gd_s hS
      refine VL.q (q_conv Tryz.underlying3 Tryz.underlying5 rfl (wu8_in b25)) (by decide) ?_
      obtain ⟨b26_25, hS⟩ := gd_s hS
      obtain ⟨u26_7, eu26_7, hS⟩ := lt_s hS
      refine VL.setv 25 rfl (congrArg (Value.int .u8) (u8_z b26_25 eu26_7)) ?_
      refine VL.lit (α := UInt8) (xs := [.tmp 25]) (vs := [.int .u8 (u26_7.toNat : Int)]) [u26_7] Tryz.underlying51 glit5 (by decide) rfl rfl rfl rfl (by decide) (fun _ _ _ _ => trivial) (by decide) (fun s26_6 hs26_6 => ?_) (by decide)
      replace hS := lt_to hs26_6 hS
      refine VL.q (q_b2s (s := s26_6) Tryz.underlying51 Tryz.underlying5 Tryz.underlying9 rfl) (by decide) ?_
      refine VL.q (q_move rfl) (by decide) ?_
      obtain ⟨b29, hS⟩ := gd_s hS
      obtain ⟨y29_9, ey29_9, hS⟩ := lt_s hS
      refine VL.q (q_catE rfl rfl b29 ey29_9) (by decide) ?_
      refine VL.q (q_assign rfl) (by decide) ?_
      refine VL.rnd ((n0_4 / 10), y29_9) [0, 3] (fun _ _ h => h) (go2 hS hK1) rfl
    ·
      replace hS := it_f h19 hS
      replace hS := up2 hS hK1
      refine VC.exit_to (fun _ _ h => h) ?_
      refine VC.seq ?_
      refine VC.region ?_
      refine VL.q (q_move rfl) (by decide) ?_
      refine VL.q (q_assign rfl) (by decide) ?_
      refine VL.to (fun _ _ h => h) ?_
      cases hS
      exact VC.ret (fin1 (.inr rfl) rfl rfl () rfl trivial (fun _ _ => trivial) (fun _ _ => trivial))

set_option maxHeartbeats 4000000 in
set_option maxRecDepth 100000 in
theorem rectoref3_Decimal_ct (n_0 : Int) {r : Str} (hS : Sh.rectoref3_Decimal n_0 = some r) :
    Ct Tryz.prog 63 [i64 n_0] Mo.tt (Ow.emp) (X := Unit) (fun _ => str r) (fun _ => True) (fun _ => Mo.tt) (fun _ => Ow.emp) := by
  refine Ct.of Tryz.func63 rfl (by kernel_rfl) Tryz.ntmps63 (by simp) fun c => ?_
  unfold Sh.rectoref3_Decimal at hS
  refine VC.seq ?_
  refine VC.region ?_
  refine VL.q (q_assign rfl) (by decide) ?_
  refine VL.to (fun _ _ h => h) ?_
  refine VC.seq ?_
  refine VC.seq ?_
  refine VC.region ?_
  refine VL.q (q_move rfl) (by decide) ?_
  refine VL.q (q_lss rfl rfl) (by decide) ?_
  refine VL.to (fun _ _ h => h) ?_
  refine VC.cond_dec rfl (fun h5 => ?_) (fun h5 => ?_)
  ·
    replace hS := it_t h5 hS
    refine VC.seq ?_
    refine VC.seq ?_
    refine VC.region ?_
    refine VL.q (q_move rfl) (by decide) ?_
    refine VL.q (q_eql rfl rfl) (by decide) ?_
    refine VL.to (fun _ _ h => h) ?_
    refine VC.cond_dec rfl (fun h7 => ?_) (fun h7 => ?_)
    ·
      replace hS := it_t h7 hS
      refine VC.seq ?_
      refine VC.region ?_
      refine VL.q (q_assign rfl) (by decide) ?_
      refine VL.to (fun _ _ h => h) ?_
      cases hS
      exact VC.ret (fin1 (.inr rfl) rfl rfl () rfl trivial (fun _ _ => trivial) (fun _ _ => trivial))
    ·
      replace hS := it_f h7 hS
      refine VC.skip_to (fun _ _ h => h) ?_
      refine VC.seq ?_
      refine VC.region ?_
      refine VL.q (q_move rfl) (by decide) ?_
      obtain ⟨b9, hS⟩ := gd_s hS
      refine VL.q (q_sub rfl rfl b9) (by decide) ?_
      obtain ⟨y10_1, ey10_1, hS⟩ := bd_s hS
      refine VL.q (q_call (rectoref3_Decimal_r_ct (0 - n_0) ey10_1) rfl (fun _ _ => rfl)) (by decide) ?_
      obtain ⟨b11, hS⟩ := gd_s hS
      obtain ⟨y11_2, ey11_2, hS⟩ := lt_s hS
      refine VL.q (q_catE rfl rfl b11 ey11_2) (by decide) ?_
      refine VL.q (q_assign rfl) (by decide) ?_
      refine VL.to (fun _ _ h => h) ?_
      cases hS
      exact VC.ret (fin1 (.inr rfl) rfl rfl () rfl trivial (fun _ _ => trivial) (fun _ _ => trivial))
  ·
    replace hS := it_f h5 hS
    refine VC.skip_to (fun _ _ h => h) ?_
    refine VC.seq ?_
    refine VC.region ?_
    refine VL.q (q_move rfl) (by decide) ?_
    obtain ⟨b13, hS⟩ := gd_s hS
    refine VL.q (q_rem rfl rfl b13) (by decide) ?_
    obtain ⟨b14, hS⟩ := gd_s hS
    refine VL.q (q_add rfl rfl b14) (by decide) ?_
    obtain ⟨b15, hS⟩ := gd_s hS
    refine VL.q (q_conv Tryz.underlying3 Tryz.underlying5 rfl (wu8_in b15)) (by decide) ?_
    obtain ⟨b16_15, hS⟩ := gd_s hS
    obtain ⟨u16_4, eu16_4, hS⟩ := lt_s hS
    refine VL.setv 15 rfl (congrArg (Value.int .u8) (u8_z b16_15 eu16_4)) ?_
    refine VL.lit (α := UInt8) (xs := [.tmp 15]) (vs := [.int .u8 (u16_4.toNat : Int)]) [u16_4] Tryz.underlying51 glit5 (by decide) rfl rfl rfl rfl (by decide) (fun _ _ _ _ => trivial) (by decide) (fun s16_3 hs16_3 => ?_) (by decide)
    replace hS := lt_to hs16_3 hS
    refine VL.q (q_b2s (s := s16_3) Tryz.underlying51 Tryz.underlying5 Tryz.underlying9 rfl) (by decide) ?_
    refine VL.q (q_assign rfl) (by decide) ?_
    refine VL.to (fun _ _ h => h) ?_
    refine VC.keep [0, 3] rfl ?_
    refine VC.seq ?_
    refine VC.block ?_
    refine VC.iter (S := Int × Str) (fun sg => (sg.1, sg.2)) (fun sg => [(0, i64 sg.1), (3, str sg.2)]) (fun sg => Mo.tt) (fun sg => Ow.emp) (n_0, s16_3.l) [0, 3] hS rfl ?_
    clear hS
    rintro ⟨n0_6, s3_7⟩ m1 y1 hS hK1
    show VC _ _ _ _ _ [(0, i64 n0_6), (3, str s3_7)] (Mo.and Mo.tt _) (Ow.emp)
    refine VC.seq ?_
    refine VC.seq ?_
    refine VC.region ?_
    refine VL.q (q_move rfl) (by decide) ?_
    refine VL.q (q_geq rfl rfl) (by decide) ?_
    refine VL.to (fun _ _ h => h) ?_
    refine VC.cond_dec rfl (fun h19 => ?_) (fun h19 => ?_)
    ·
      replace hS := it_t h19 hS
      refine VC.skip_to (fun _ _ h => h) ?_
      refine VC.block ?_
      refine VC.seq ?_
      refine VC.region ?_
      refine VL.q (q_move rfl) (by decide) ?_
      obtain ⟨b21, hS⟩ := gd_s hS
      refine VL.q (q_quo rfl rfl b21.1 (wi64_in b21.2)) (by decide) ?_
      refine VL.q (q_assign rfl) (by decide) ?_
      refine VL.to (fun _ _ h => h) ?_
      refine VC.region ?_
      refine VL.q (q_move rfl) (by decide) ?_
      obtain ⟨b23, hS⟩ := gd_s hS
      refine VL.q (q_rem rfl rfl b23) (by decide) ?_
      obtain ⟨b24, hS⟩ := gd_s hS
      refine VL.q (q_add rfl rfl b24) (by decide) ?_
      obtain ⟨b25, hS⟩ := gd_s hS
      refine VL.q (q_conv Tryz.underlying3 Tryz.underlying5 rfl (wu8_in b25)) (by decide) ?_
      obtain ⟨b26_25, hS⟩ := gd_s hS
      obtain ⟨u26_9, eu26_9, hS⟩ := lt_s hS
      refine VL.setv 25 rfl (congrArg (Value.int .u8) (u8_z b26_25 eu26_9)) ?_
      refine VL.lit (α := UInt8) (xs := [.tmp 25]) (vs := [.int .u8 (u26_9.toNat : Int)]) [u26_9] Tryz.underlying51 glit5 (by decide) rfl rfl rfl rfl (by decide) (fun _ _ _ _ => trivial) (by decide) (fun s26_8 hs26_8 => ?_) (by decide)
      replace hS := lt_to hs26_8 hS
      refine VL.q (q_b2s (s := s26_8) Tryz.underlying51 Tryz.underlying5 Tryz.underlying9 rfl) (by decide) ?_
      refine VL.q (q_move rfl) (by decide) ?_
      obtain ⟨b29, hS⟩ := gd_s hS
      obtain ⟨y29_11, ey29_11, hS⟩ := lt_s hS
      refine VL.q (q_catE rfl rfl b29 ey29_11) (by decide) ?_
      refine VL.q (q_assign rfl) (by decide) ?_
      refine VL.rnd ((n0_6 / 10), y29_11) [0, 3] (fun _ _ h => h) (go2 hS hK1) rfl
    ·
      replace hS := it_f h19 hS
      replace hS := up2 hS hK1
      refine VC.exit_to (fun _ _ h => h) ?_
      refine VC.seq ?_
      refine VC.region ?_
      refine VL.q (q_move rfl) (by decide) ?_
      refine VL.q (q_assign rfl) (by decide) ?_
      refine VL.to (fun _ _ h => h) ?_
      cases hS
      exact VC.ret (fin1 (.inr rfl) rfl rfl () rfl trivial (fun _ _ => trivial) (fun _ _ => trivial))

set_option maxHeartbeats 4000000 in
set_option maxRecDepth 100000 in
theorem rectoref3_Word_ct (e_0 : Int) {r : Str} (hS : Sh.rectoref3_Word e_0 = some r) :
    Ct Tryz.prog 113 [i64 e_0] Mo.tt (Ow.emp) (X := Unit) (fun _ => str r) (fun _ => True) (fun _ => Mo.tt) (fun _ => Ow.emp) := by
  refine Ct.of Tryz.func113 rfl (by kernel_rfl) Tryz.ntmps113 (by simp) fun c => ?_
  unfold Sh.rectoref3_Word at hS
  refine VC.seq ?_
  refine VC.region ?_
  refine VL.q (q_assign rfl) (by decide) ?_
  refine VL.to (fun _ _ h => h) ?_
  refine VC.seq ?_
  refine VC.region ?_
  refine VL.lit (α := Str) (xs := [.const (str [111, 107]), .const (str [97, 114, 103]), .const (str [102, 111, 114, 109]), .const (str [115, 104, 111, 114, 116]), .const (str [108, 111, 110, 103]), .const (str [110, 97, 109, 101]), .const (str [116, 119, 105, 99, 101]), .const (str [115, 116, 97, 116, 101]), .const (str [100, 105, 114, 116, 121]), .const (str [99, 111, 110, 102, 108, 105, 99, 116]), .const (str [115, 97, 109, 101]), .const (str [119, 97, 121]), .const (str [115, 117, 109]), .const (str [100, 111, 119, 110]), .const (str [113, 117, 111, 116, 97])]) (vs := [str [111, 107], str [97, 114, 103], str [102, 111, 114, 109], str [115, 104, 111, 114, 116], str [108, 111, 110, 103], str [110, 97, 109, 101], str [116, 119, 105, 99, 101], str [115, 116, 97, 116, 101], str [100, 105, 114, 116, 121], str [99, 111, 110, 102, 108, 105, 99, 116], str [115, 97, 109, 101], str [119, 97, 121], str [115, 117, 109], str [100, 111, 119, 110], str [113, 117, 111, 116, 97]]) [[111, 107], [97, 114, 103], [102, 111, 114, 109], [115, 104, 111, 114, 116], [108, 111, 110, 103], [110, 97, 109, 101], [116, 119, 105, 99, 101], [115, 116, 97, 116, 101], [100, 105, 114, 116, 121], [99, 111, 110, 102, 108, 105, 99, 116], [115, 97, 109, 101], [119, 97, 121], [115, 117, 109], [100, 111, 119, 110], [113, 117, 111, 116, 97]] Tryz.underlying43 glit9 (by decide) rfl rfl rfl rfl (by decide) (fun _ _ _ _ => trivial) (by decide) (fun s4_1 hs4_1 => ?_) (by decide)
  replace hS := lt_to hs4_1 hS
  refine VL.q (q_assign rfl) (by decide) ?_
  refine VL.to (fun _ _ h => h) ?_
  refine VC.seq ?_
  refine VC.cutJ (S := Bool) (fun (x12_3 : Bool) => x12_3) (fun (x12_3 : Bool) => [(0, i64 e_0), (3, s4_1.val), (12, .bool x12_3)]) (fun (x12_3 : Bool) => Mo.tt) (fun (x12_3 : Bool) => Ow.emp) hS ?_ ?_
  · -- up to where ways meet
    clear hS
    intro k4 hS
    refine VC.region ?_
    refine VL.q (q_move rfl) (by decide) ?_
    refine VL.q (q_lss rfl rfl) (by decide) ?_
    refine VL.q (q_move rfl) (by decide) ?_
    refine VL.split_dec 7 rfl (fun h7 => ?_) (fun h7 => ?_)
    ·
      replace hS := it_t h7 hS
      refine VL.gn rfl rfl rfl (by decide) ?_
      refine VL.gn rfl rfl rfl (by decide) ?_
      refine VL.gn rfl rfl rfl (by decide) ?_
      refine VL.gn rfl rfl rfl (by decide) ?_
      refine VL.q (q_pick_t rfl rfl) (by decide) ?_
      refine VL.mt true [0, 3, 12] (fun _ _ h => h) hS rfl
    ·
      replace hS := it_f h7 hS
      refine VL.gy rfl rfl (q_move rfl) (by decide) ?_
      refine VL.gy rfl rfl (q_move rfl) (by decide) ?_
      refine VL.gy rfl rfl (q_ln (s := s4_1) Tryz.underlying43 rfl) (by decide) ?_
      refine VL.gy rfl rfl (q_geq rfl rfl) (by decide) ?_
      refine VL.q (q_pick_f rfl rfl) (by decide) ?_
      refine VL.mt (decide ((s4_1.l.length : Int) ≤ e_0)) [0, 3, 12] (fun _ _ h => h) hS rfl
  · -- from there
    clear hS
    rintro x12_3 hS
    show VC _ _ _ _ _ [(0, i64 e_0), (3, s4_1.val), (12, .bool x12_3)] (Mo.and Mo.tt _) (Ow.emp)
    refine VC.cond rfl (fun h12 => ?_) (fun h12 => ?_)
    ·
      replace hS := it_t h12 hS
      refine VC.seq ?_
      refine VC.region ?_
      refine VL.q (q_assign rfl) (by decide) ?_
      refine VL.to (fun _ _ h => h) ?_
      cases hS
      exact VC.ret (fin1 (.inr rfl) rfl rfl () rfl trivial (fun _ _ => trivial) (fun _ _ => trivial))
    ·
      replace hS := it_b h12 hS
      refine VC.skip_to (fun _ _ h => h) ?_
      refine VC.seq ?_
      refine VC.region ?_
      refine VL.q (q_move rfl) (by decide) ?_
      refine VL.q (q_move rfl) (by decide) ?_
      obtain ⟨z15_5, nz15_5, hz15_5, hS⟩ := at_s hS
      refine VL.q (q_ixm (s := s4_1) Tryz.underlying43 gsz9 rfl rfl nz15_5 (lt_of_get nz15_5 hz15_5)) (by decide) ?_
      refine VL.q (q_el (s := s4_1) gone9 rfl hz15_5 rfl) (by decide) ?_
      refine VL.q (q_assign rfl) (by decide) ?_
      refine VL.to (fun _ _ h => h) ?_
      cases hS
      exact VC.ret (fin1 (.inr rfl) rfl rfl () rfl trivial (fun _ _ => trivial) (fun _ _ => trivial))

set_option maxHeartbeats 4000000 in
set_option maxRecDepth 100000 in
theorem rectoref3_Words_ct (w_0 : Rectoref3Wrong) {r : Str} (hS : Sh.rectoref3_Words w_0.pl = some r) :
    Ct Tryz.prog 55 [.agg #[w_0.parts.val, i64 w_0.err]] w_0.parts.ok (Ow.emp) (X := Unit) (fun _ => str r) (fun _ => True) (fun _ => Mo.tt) (fun _ => Ow.emp) := by
  refine Ct.of Tryz.func55 rfl (by kernel_rfl) Tryz.ntmps55 (by simp) fun c => ?_
  unfold Sh.rectoref3_Words at hS
  refine VC.seq ?_
  refine VC.region ?_
  refine VL.box (cs := [w_0.parts.val, i64 w_0.err]) rfl rfl (by decide) fun b1_1 => ?_
  refine VL.q (q_assign rfl) (by decide) ?_
  refine VL.to (fun _ _ h => h) ?_
  refine VC.seq ?_
  refine VC.region ?_
  refine VL.q (q_assign rfl) (by decide) ?_
  refine VL.to (fun _ _ h => h) ?_
  refine VC.seq ?_
  refine VC.seq ?_
  refine VC.region ?_
  refine VL.q (q_assign rfl) (by decide) ?_
  refine VL.to (fun _ _ h => h) ?_
  refine VC.block ?_
  refine VC.iter (S := Str × Int) (fun sg => (sg.1, sg.2)) (fun sg => [(1, ptr b1_1 0), (3, str sg.1), (4, i64 sg.2)]) (fun sg => Mo.tt) (fun sg => Ow.star (Blk b1_1 [w_0.parts.val, i64 w_0.err] 31) (Ow.emp)) ([], 0) [1, 3, 4] hS rfl ?_
  clear hS
  rintro ⟨s3_2, i4_3⟩ m1 y1 hS hK1
  show VC _ _ _ _ _ [(1, ptr b1_1 0), (3, str s3_2), (4, i64 i4_3)] (Mo.and Mo.tt _) (Ow.star (Blk b1_1 [w_0.parts.val, i64 w_0.err] 31) (Ow.emp))
  refine VC.seq ?_
  refine VC.seq ?_
  refine VC.region ?_
  refine VL.q (q_move rfl) (by decide) ?_
  refine VL.q (q_field gfa31_0 rfl) (by decide) ?_
  refine VL.q (q_fe gone29 rfl rfl) (by decide) ?_
  refine VL.q (q_ln (s := w_0.parts) Tryz.underlying29 rfl) (by decide) ?_
  refine VL.q (q_lss rfl rfl) (by decide) ?_
  refine VL.to (fun _ _ h => h) ?_
  refine VC.cond_dec rfl (fun h9 => ?_) (fun h9 => ?_)
  ·
    replace hS := it_t h9 hS
    refine VC.skip_to (fun _ _ h => h) ?_
    refine VC.seq ?_
    refine VC.block ?_
    refine VC.draw ((List.range 19).map fun k => (k, true)) mixed (by kernel_rfl) (by kernel_rfl) (by kernel_rfl) ?_
    refine VD.q rfl (q_move rfl) (by decide) ?_
    refine VD.q rfl (q_field gfa31_0 rfl) (by decide) ?_
    refine VD.q rfl (q_fe gone29 rfl rfl) (by decide) ?_
    refine VD.q rfl (q_move rfl) (by decide) ?_
    obtain ⟨z16_4, nz16_4, hz16_4, hS⟩ := at_s hS
    refine VD.q rfl (q_ixm (s := w_0.parts) Tryz.underlying29 gsz120 rfl rfl nz16_4 (lt_of_get nz16_4 hz16_4)) (by decide) ?_
    refine VD.q rfl (q_field gfa120_0 rfl) (by decide) ?_
    refine VD.q rfl (q_elf (s := w_0.parts) gone9 rfl hz16_4 rfl) (by decide) ?_
    obtain ⟨b19, hS⟩ := gd_s hS
    obtain ⟨y19_5, ey19_5, hS⟩ := lt_s hS
    refine VD.q rfl (q_catE rfl rfl b19 ey19_5) (by decide) ?_
    obtain ⟨b20, hS⟩ := gd_s hS
    obtain ⟨y20_6, ey20_6, hS⟩ := lt_s hS
    refine VD.q rfl (q_catE rfl rfl b20 ey20_6) (by decide) ?_
    refine VD.q rfl (q_field gfa31_0 rfl) (by decide) ?_
    refine VD.q rfl (q_fe gone29 rfl rfl) (by decide) ?_
    refine VD.q rfl (q_move rfl) (by decide) ?_
    obtain ⟨z24_7, nz24_7, hz24_7, hS⟩ := at_s hS
    refine VD.q rfl (q_ixm (s := w_0.parts) Tryz.underlying29 gsz120 rfl rfl nz24_7 (lt_of_get nz24_7 hz24_7)) (by decide) ?_
    refine VD.q rfl (q_field gfa120_1 rfl) (by decide) ?_
    refine VD.q rfl (q_elf (s := w_0.parts) gone3 rfl hz24_7 rfl) (by decide) ?_
    obtain ⟨y27_8, ey27_8, hS⟩ := bd_s hS
    refine VD.q rfl (q_call (rectoref3_Decimal_ct z24_7.at_ ey27_8) rfl (fun _ _ => rfl)) (by decide) ?_
    obtain ⟨b28, hS⟩ := gd_s hS
    obtain ⟨y28_9, ey28_9, hS⟩ := lt_s hS
    refine VD.q rfl (q_catE rfl rfl b28 ey28_9) (by decide) ?_
    obtain ⟨b29, hS⟩ := gd_s hS
    obtain ⟨y29_10, ey29_10, hS⟩ := lt_s hS
    refine VD.q rfl (q_catE rfl rfl b29 ey29_10) (by decide) ?_
    refine VD.q rfl (q_assign rfl) (by decide) ?_
    refine VD.to (fun _ _ h => h) ?_
    refine VC.keep [1, 3, 4] rfl ?_
    refine VC.region ?_
    refine VL.q (q_move rfl) (by decide) ?_
    obtain ⟨b11, hS⟩ := gd_s hS
    refine VL.q (q_add rfl rfl b11) (by decide) ?_
    refine VL.q (q_assign rfl) (by decide) ?_
    refine VL.rnd (y29_10, (i4_3 + 1)) [1, 3, 4] (fun _ _ h => h) (go2 hS hK1) rfl
  ·
    replace hS := it_f h9 hS
    replace hS := up2 hS hK1
    refine VC.exit_to (fun _ _ h => h) ?_
    refine VC.seq ?_
    refine VC.region ?_
    refine VL.q (q_move rfl) (by decide) ?_
    refine VL.q (q_field gfa31_1 rfl) (by decide) ?_
    refine VL.q (q_fe gone3 rfl rfl) (by decide) ?_
    obtain ⟨y33_11, ey33_11, hS⟩ := bd_s hS
    refine VL.q (q_call (rectoref3_Word_ct w_0.err ey33_11) rfl (fun _ _ => rfl)) (by decide) ?_
    obtain ⟨b34, hS⟩ := gd_s hS
    obtain ⟨y34_12, ey34_12, hS⟩ := lt_s hS
    refine VL.q (q_catE rfl rfl b34 ey34_12) (by decide) ?_
    refine VL.q (q_assign rfl) (by decide) ?_
    refine VL.to (fun _ _ h => h) ?_
    refine VC.keep [2] rfl ?_
    cases hS
    exact VC.ret (fin1 (.inr rfl) rfl rfl () rfl trivial (fun _ _ => trivial) (fun _ _ => trivial))

set_option maxHeartbeats 4000000 in
set_option maxRecDepth 100000 in
theorem rectolaw2_Tells_ct (err_0 : Er) (w_1 : Rectoref3Wrong) {r : Bool} (hS : Sh.rectolaw2_Tells err_0.pl w_1.pl = some r) :
    Ct Tryz.prog 12 [err_0.val, .agg #[w_1.parts.val, i64 w_1.err]] (err_0.ok.and (w_1.parts.ok.and Gl)) (Ow.emp) (X := Unit) (fun _ => .bool r) (fun _ => True) (fun _ => Mo.tt) (fun _ => Ow.emp) := by
  refine Ct.of Tryz.func12 rfl (by kernel_rfl) Tryz.ntmps12 (by simp) fun c => ?_
  unfold Sh.rectolaw2_Tells at hS
  refine VC.seq ?_
  refine VC.region ?_
  refine VL.box (cs := [w_1.parts.val, i64 w_1.err]) rfl rfl (by decide) fun b3_1 => ?_
  refine VL.q (q_assign rfl) (by decide) ?_
  refine VL.to (fun _ _ h => h) ?_
  refine VC.seq ?_
  refine VC.seq ?_
  refine VC.region ?_
  refine VL.q (q_field gfa31_1 rfl) (by decide) ?_
  refine VL.q (q_fe gone3 rfl rfl) (by decide) ?_
  refine VL.q (q_eql rfl rfl) (by decide) ?_
  refine VL.to (fun _ _ h => h) ?_
  refine VC.cond_dec rfl (fun h8 => ?_) (fun h8 => ?_)
  ·
    replace hS := it_t h8 hS
    refine VC.seq ?_
    refine VC.region ?_
    refine VL.q (q_move rfl) (by decide) ?_
    refine VL.q (q_ereq Tryz.underlying25 rfl) (by decide) ?_
    refine VL.q (q_assign rfl) (by decide) ?_
    refine VL.to (fun _ _ h => h) ?_
    cases hS
    exact VC.ret (fin1 (.inr rfl) rfl rfl () rfl trivial (fun _ _ => trivial) (fun _ _ => trivial))
  ·
    replace hS := it_f h8 hS
    refine VC.skip_to (fun _ _ h => h) ?_
    refine VC.seq ?_
    refine VC.cutJ (S := Bool) (fun (x27_2 : Bool) => x27_2) (fun (x27_2 : Bool) => [(0, err_0.val), (3, ptr b3_1 0), (27, .bool x27_2)]) (fun (x27_2 : Bool) => Mo.tt) (fun (x27_2 : Bool) => Ow.star (Blk b3_1 [w_1.parts.val, i64 w_1.err] 31) (Ow.emp)) hS ?_ ?_
    · -- up to where ways meet
      clear hS
      intro k3 hS
      refine VC.draw ((List.range 17).map fun k => (k, true)) mixed (by kernel_rfl) (by kernel_rfl) (by kernel_rfl) ?_
      refine VD.q rfl (q_move rfl) (by decide) ?_
      refine VD.q rfl (q_ereq Tryz.underlying25 rfl) (by decide) ?_
      refine VD.q rfl (q_move rfl) (by decide) ?_
      refine VD.split_dec 13 rfl (fun h13 => ?_) (fun h13 => ?_)
      ·
        replace hS := it_t h13 hS
        refine VD.gn rfl rfl rfl rfl (by decide) ?_
        refine VD.gn rfl rfl rfl rfl (by decide) ?_
        refine VD.gn rfl rfl rfl rfl (by decide) ?_
        refine VD.gn rfl rfl rfl rfl (by decide) ?_
        refine VD.gn rfl rfl rfl rfl (by decide) ?_
        refine VD.q rfl (q_pick_t rfl rfl) (by decide) ?_
        refine VD.q rfl (q_move rfl) (by decide) ?_
        refine VD.gn rfl rfl rfl rfl (by decide) ?_
        refine VD.gn rfl rfl rfl rfl (by decide) ?_
        refine VD.gn rfl rfl rfl rfl (by decide) ?_
        refine VD.gn rfl rfl rfl rfl (by decide) ?_
        refine VD.gn rfl rfl rfl rfl (by decide) ?_
        refine VD.gn rfl rfl rfl rfl (by decide) ?_
        refine VD.q rfl (q_pick_t rfl rfl) (by decide) ?_
        refine VD.mt true [0, 3, 27] (fun _ _ h => h) hS rfl
      ·
        replace hS := it_f h13 hS
        refine VD.gy rfl rfl rfl (q_move rfl) (by decide) ?_
        obtain ⟨y15_4, ey15_4, hS⟩ := bd_s hS
        refine VD.gy rfl rfl rfl (q_say rfl (text_says err_0 ey15_4)) (by decide) ?_
        refine VD.gy rfl rfl rfl (q_fes gagg31 rfl rfl) (by decide) ?_
        obtain ⟨y17_5, ey17_5, hS⟩ := bd_s hS
        refine VD.gy rfl rfl rfl (q_call (rectoref3_Words_ct w_1 ey17_5) rfl (fun _ _ => rfl)) (by decide) ?_
        refine VD.gy rfl rfl rfl (q_sne rfl rfl) (by decide) ?_
        refine VD.q rfl (q_pick_f rfl rfl) (by decide) ?_
        refine VD.q rfl (q_move rfl) (by decide) ?_
        refine VD.split_ndec 20 rfl (fun h20 => ?_) (fun h20 => ?_)
        ·
          replace hS := it_f h20 hS
          refine VD.gn rfl rfl rfl rfl (by decide) ?_
          refine VD.gn rfl rfl rfl rfl (by decide) ?_
          refine VD.gn rfl rfl rfl rfl (by decide) ?_
          refine VD.gn rfl rfl rfl rfl (by decide) ?_
          refine VD.gn rfl rfl rfl rfl (by decide) ?_
          refine VD.gn rfl rfl rfl rfl (by decide) ?_
          refine VD.q rfl (q_pick_t rfl rfl) (by decide) ?_
          refine VD.mt true [0, 3, 27] (fun _ _ h => h) hS rfl
        ·
          replace hS := it_t h20 hS
          refine VD.gy rfl rfl rfl (q_move rfl) (by decide) ?_
          refine VD.gy rfl rfl rfl (q_field gfa31_1 rfl) (by decide) ?_
          refine VD.gy rfl rfl rfl (q_fe gone3 rfl rfl) (by decide) ?_
          refine VD.gy rfl rfl rfl (q_mkif Tryz.underlying102 (fun _ h => by cases h) rfl) (by decide) ?_
          refine VD.gy rfl rfl rfl (q_call (is_ct err_0 w_1.err) rfl (fun _ _ => rfl)) (by decide) ?_
          refine VD.gy rfl rfl rfl (q_not rfl) (by decide) ?_
          refine VD.q rfl (q_pick_f rfl rfl) (by decide) ?_
          refine VD.mt (!decide (endNo err_0.pl = some w_1.err)) [0, 3, 27] (fun _ _ h => h) hS rfl
    · -- from there
      clear hS
      rintro x27_2 hS
      show VC _ _ _ _ _ [(0, err_0.val), (3, ptr b3_1 0), (27, .bool x27_2)] (Mo.and Mo.tt _) (Ow.star (Blk b3_1 [w_1.parts.val, i64 w_1.err] 31) (Ow.emp))
      refine VC.cond rfl (fun h27 => ?_) (fun h27 => ?_)
      ·
        replace hS := it_t h27 hS
        refine VC.seq ?_
        refine VC.region ?_
        refine VL.q (q_assign rfl) (by decide) ?_
        refine VL.to (fun _ _ h => h) ?_
        cases hS
        exact VC.ret (fin1 (.inr rfl) rfl rfl () rfl trivial (fun _ _ => trivial) (fun _ _ => trivial))
      ·
        replace hS := it_b h27 hS
        refine VC.skip_to (fun _ _ h => h) ?_
        refine VC.seq ?_
        refine VC.seq ?_
        refine VC.region ?_
        refine VL.q (q_field gfa31_0 rfl) (by decide) ?_
        refine VL.q (q_fe gone29 rfl rfl) (by decide) ?_
        refine VL.q (q_ln (s := w_1.parts) Tryz.underlying29 rfl) (by decide) ?_
        refine VL.q (q_eql rfl rfl) (by decide) ?_
        refine VL.to (fun _ _ h => h) ?_
        refine VC.cond_dec rfl (fun h31 => ?_) (fun h31 => ?_)
        ·
          replace hS := it_t h31 hS
          refine VC.seq ?_
          refine VC.region ?_
          refine VL.q (q_assign rfl) (by decide) ?_
          refine VL.to (fun _ _ h => h) ?_
          cases hS
          exact VC.ret (fin1 (.inr rfl) rfl rfl () rfl trivial (fun _ _ => trivial) (fun _ _ => trivial))
        ·
          replace hS := it_f h31 hS
          refine VC.skip_to (fun _ _ h => h) ?_
          refine VC.seq ?_
          refine VC.region ?_
          refine VL.alloc (cs := [.pointer none]) (by kernel_rfl) (by decide) fun b5_6 => ?_
          refine VL.to (fun _ _ h => h) ?_
          refine VC.seq ?_
          refine VC.seq ?_
          refine VC.region ?_
          refine VL.q (q_move rfl) (by decide) ?_
          refine VL.q (q_mkif Tryz.underlying118 (fun _ h => by cases h) rfl) (by decide) ?_
          rcases err_0 with _ | _ | ⟨eb7, ep7, ea7, ez7⟩
          · exact absurd hS (by simp [Er.pl])
          · exact absurd hS (by simp [Er.pl])
          dsimp only [Er.pl] at hS
          refine VL.addM (Cells eb7 0 [str ep7, i64 ea7, ez7.val]) (fun _ m => (InM.out (X := (Er.fault eb7 ep7 ea7 ez7).ok) _ m).1) ?_
          refine VL.addM ez7.ok (fun _ m => (InM.out (X := (Er.fault eb7 ep7 ea7 ez7).ok) _ m.2).2) ?_
          refine VL.callO (As.as_ct eb7 b5_6) rfl (by decide) ?_
          rintro _ _
          refine VL.q (q_not rfl) (by decide) ?_
          refine VL.q (q_move rfl) (by decide) ?_
          refine VL.gy rfl rfl (q_fe gone105 rfl rfl) (by decide) ?_
          refine VL.gy rfl rfl (q_peqn Tryz.underlying105 rfl) (by decide) ?_
          refine VL.q (q_pick_f rfl rfl) (by decide) ?_
          refine VL.to (fun _ _ h => h) ?_
          refine VC.keep [3, 5, 39] rfl ?_
          refine VC.cond_f rfl ?_
          refine VC.skip_to (fun _ _ h => h) ?_
          refine VC.seq ?_
          refine VC.draw ((List.range 23).map fun k => (k, true)) mixed (by kernel_rfl) (by kernel_rfl) (by kernel_rfl) ?_
          refine VD.q rfl (q_fe gone105 rfl rfl) (by decide) ?_
          refine VD.q rfl (q_nilCheck rfl) (by decide) ?_
          refine VD.q rfl (q_field gfa107_0 rfl) (by decide) ?_
          refine VD.q rfl (q_fm gone9 rfl rfl) (by decide) ?_
          refine VD.q rfl (q_field gfa31_0 rfl) (by decide) ?_
          refine VD.q rfl (q_fe gone29 rfl rfl) (by decide) ?_
          obtain ⟨z46_8, nz46_8, hz46_8, hS⟩ := at_s hS
          refine VD.q rfl (q_ixm (s := w_1.parts) Tryz.underlying29 gsz120 rfl rfl nz46_8 (lt_of_get nz46_8 hz46_8)) (by decide) ?_
          refine VD.q rfl (q_field gfa120_0 rfl) (by decide) ?_
          refine VD.q rfl (q_elf (s := w_1.parts) gone9 rfl hz46_8 rfl) (by decide) ?_
          refine VD.q rfl (q_seq rfl rfl) (by decide) ?_
          refine VD.q rfl (q_move rfl) (by decide) ?_
          refine VD.split_dec 50 rfl (fun h50 => ?_) (fun h50 => ?_)
          ·
            replace hS := it_t h50 hS
            refine VD.gy rfl rfl rfl (q_fe gone105 rfl rfl) (by decide) ?_
            refine VD.gy rfl rfl rfl (q_nilCheck rfl) (by decide) ?_
            refine VD.gy rfl rfl rfl (q_field gfa107_1 rfl) (by decide) ?_
            refine VD.gy rfl rfl rfl (q_fm gone3 rfl rfl) (by decide) ?_
            refine VD.gy rfl rfl rfl (q_field gfa31_0 rfl) (by decide) ?_
            refine VD.gy rfl rfl rfl (q_fe gone29 rfl rfl) (by decide) ?_
            obtain ⟨z57_9, nz57_9, hz57_9, hS⟩ := at_s hS
            refine VD.gy rfl rfl rfl (q_ixm (s := w_1.parts) Tryz.underlying29 gsz120 rfl rfl nz57_9 (lt_of_get nz57_9 hz57_9)) (by decide) ?_
            refine VD.gy rfl rfl rfl (q_field gfa120_1 rfl) (by decide) ?_
            refine VD.gy rfl rfl rfl (q_elf (s := w_1.parts) gone3 rfl hz57_9 rfl) (by decide) ?_
            refine VD.gy rfl rfl rfl (q_eql rfl rfl) (by decide) ?_
            refine VD.q rfl (q_pick_t rfl rfl) (by decide) ?_
            refine VD.q rfl (q_assign rfl) (by decide) ?_
            refine VD.to (fun _ _ h => h) ?_
            refine VC.keep [4] rfl ?_
            cases hS
            exact VC.ret (fin1 (.inr rfl) rfl rfl () rfl trivial (fun _ _ => trivial) (fun _ _ => trivial))
          ·
            replace hS := it_f h50 hS
            refine VD.gn rfl rfl rfl rfl (by decide) ?_
            refine VD.gn rfl rfl rfl rfl (by decide) ?_
            refine VD.gn rfl rfl rfl rfl (by decide) ?_
            refine VD.gn rfl rfl rfl rfl (by decide) ?_
            refine VD.gn rfl rfl rfl rfl (by decide) ?_
            refine VD.gn rfl rfl rfl rfl (by decide) ?_
            refine VD.gn rfl rfl rfl rfl (by decide) ?_
            refine VD.gn rfl rfl rfl rfl (by decide) ?_
            refine VD.gn rfl rfl rfl rfl (by decide) ?_
            refine VD.gn rfl rfl rfl rfl (by decide) ?_
            refine VD.q rfl (q_pick_f rfl rfl) (by decide) ?_
            refine VD.q rfl (q_assign rfl) (by decide) ?_
            refine VD.to (fun _ _ h => h) ?_
            refine VC.keep [4] rfl ?_
            cases hS
            exact VC.ret (fin1 (.inr rfl) rfl rfl () rfl trivial (fun _ _ => trivial) (fun _ _ => trivial))

set_option maxHeartbeats 4000000 in
set_option maxRecDepth 100000 in
theorem rectolaw21_Same_ct (a_0 : Sv TodoStep) (b_1 : Sv Rectoref17Step) {r : Bool} (hS : Sh.rectolaw21_Same a_0.l b_1.l = some r) :
    Ct Tryz.prog 13 [a_0.val, b_1.val] (a_0.ok.and b_1.ok) (Ow.emp) (X := Unit) (fun _ => .bool r) (fun _ => True) (fun _ => Mo.tt) (fun _ => Ow.emp) := by
  refine Ct.of Tryz.func13 rfl (by kernel_rfl) Tryz.ntmps13 (by simp) fun c => ?_
  unfold Sh.rectolaw21_Same at hS
  refine VC.seq ?_
  refine VC.region ?_
  refine VL.q (q_assign rfl) (by decide) ?_
  refine VL.to (fun _ _ h => h) ?_
  refine VC.seq ?_
  refine VC.seq ?_
  refine VC.region ?_
  refine VL.q (q_move rfl) (by decide) ?_
  refine VL.q (q_ln (s := a_0) Tryz.underlying23 rfl) (by decide) ?_
  refine VL.q (q_move rfl) (by decide) ?_
  refine VL.q (q_ln (s := b_1) Tryz.underlying28 rfl) (by decide) ?_
  refine VL.q (q_neq rfl rfl) (by decide) ?_
  refine VL.to (fun _ _ h => h) ?_
  refine VC.cond_ndec rfl (fun h10 => ?_) (fun h10 => ?_)
  ·
    replace hS := it_f h10 hS
    refine VC.seq ?_
    refine VC.region ?_
    refine VL.q (q_assign rfl) (by decide) ?_
    refine VL.to (fun _ _ h => h) ?_
    cases hS
    exact VC.ret (fin1 (.inr rfl) rfl rfl () rfl trivial (fun _ _ => trivial) (fun _ _ => trivial))
  ·
    replace hS := it_t h10 hS
    refine VC.skip_to (fun _ _ h => h) ?_
    refine VC.seq ?_
    refine VC.seq ?_
    refine VC.region ?_
    refine VL.q (q_assign rfl) (by decide) ?_
    refine VL.to (fun _ _ h => h) ?_
    refine VC.block ?_
    refine VC.iter (S := Int) (fun (i5_1 : Int) => i5_1) (fun (i5_1 : Int) => [(0, a_0.val), (1, b_1.val), (5, i64 i5_1)]) (fun (i5_1 : Int) => Mo.tt) (fun (i5_1 : Int) => Ow.emp) 0 [0, 1, 5] hS rfl ?_
    clear hS
    rintro i5_1 m1 y1 hS hK1
    show VC _ _ _ _ _ [(0, a_0.val), (1, b_1.val), (5, i64 i5_1)] (Mo.and Mo.tt _) (Ow.emp)
    refine VC.seq ?_
    refine VC.seq ?_
    refine VC.region ?_
    refine VL.q (q_move rfl) (by decide) ?_
    refine VL.q (q_move rfl) (by decide) ?_
    refine VL.q (q_ln (s := a_0) Tryz.underlying23 rfl) (by decide) ?_
    refine VL.q (q_lss rfl rfl) (by decide) ?_
    refine VL.to (fun _ _ h => h) ?_
    refine VC.cond_dec rfl (fun h14 => ?_) (fun h14 => ?_)
    ·
      replace hS := it_t h14 hS
      refine VC.skip_to (fun _ _ h => h) ?_
      refine VC.seq ?_
      refine VC.block ?_
      refine VC.cutJ (S := Bool) (fun (x53_2 : Bool) => x53_2) (fun (x53_2 : Bool) => [(0, a_0.val), (1, b_1.val), (5, i64 i5_1), (53, .bool x53_2)]) (fun (x53_2 : Bool) => Mo.tt) (fun (x53_2 : Bool) => Ow.emp) hS ?_ ?_
      · -- up to where ways meet
        clear hS
        intro k3 hS
        refine VC.draw ((List.range 37).map fun k => (k, true)) mixed (by kernel_rfl) (by kernel_rfl) (by kernel_rfl) ?_
        refine VD.q rfl (q_move rfl) (by decide) ?_
        refine VD.q rfl (q_move rfl) (by decide) ?_
        obtain ⟨z19_4, nz19_4, hz19_4, hS⟩ := at_s hS
        refine VD.q rfl (q_ixm (s := a_0) Tryz.underlying23 gsz41 rfl rfl nz19_4 (lt_of_get nz19_4 hz19_4)) (by decide) ?_
        refine VD.q rfl (q_field gfa41_0 rfl) (by decide) ?_
        refine VD.q rfl (q_elf (s := a_0) gone9 rfl hz19_4 rfl) (by decide) ?_
        refine VD.q rfl (q_move rfl) (by decide) ?_
        refine VD.q rfl (q_move rfl) (by decide) ?_
        obtain ⟨z24_5, nz24_5, hz24_5, hS⟩ := at_s hS
        refine VD.q rfl (q_ixm (s := b_1) Tryz.underlying28 gsz111 rfl rfl nz24_5 (lt_of_get nz24_5 hz24_5)) (by decide) ?_
        refine VD.q rfl (q_field gfa111_0 rfl) (by decide) ?_
        refine VD.q rfl (q_elf (s := b_1) gone9 rfl hz24_5 rfl) (by decide) ?_
        refine VD.q rfl (q_sne rfl rfl) (by decide) ?_
        refine VD.q rfl (q_move rfl) (by decide) ?_
        refine VD.split_ndec 28 rfl (fun h28 => ?_) (fun h28 => ?_)
        ·
          replace hS := it_f h28 hS
          refine VD.gn rfl rfl rfl rfl (by decide) ?_
          refine VD.gn rfl rfl rfl rfl (by decide) ?_
          refine VD.gn rfl rfl rfl rfl (by decide) ?_
          refine VD.gn rfl rfl rfl rfl (by decide) ?_
          refine VD.gn rfl rfl rfl rfl (by decide) ?_
          refine VD.gn rfl rfl rfl rfl (by decide) ?_
          refine VD.gn rfl rfl rfl rfl (by decide) ?_
          refine VD.gn rfl rfl rfl rfl (by decide) ?_
          refine VD.gn rfl rfl rfl rfl (by decide) ?_
          refine VD.gn rfl rfl rfl rfl (by decide) ?_
          refine VD.gn rfl rfl rfl rfl (by decide) ?_
          refine VD.q rfl (q_pick_t rfl rfl) (by decide) ?_
          refine VD.q rfl (q_move rfl) (by decide) ?_
          refine VD.gn rfl rfl rfl rfl (by decide) ?_
          refine VD.gn rfl rfl rfl rfl (by decide) ?_
          refine VD.gn rfl rfl rfl rfl (by decide) ?_
          refine VD.gn rfl rfl rfl rfl (by decide) ?_
          refine VD.gn rfl rfl rfl rfl (by decide) ?_
          refine VD.gn rfl rfl rfl rfl (by decide) ?_
          refine VD.gn rfl rfl rfl rfl (by decide) ?_
          refine VD.gn rfl rfl rfl rfl (by decide) ?_
          refine VD.gn rfl rfl rfl rfl (by decide) ?_
          refine VD.gn rfl rfl rfl rfl (by decide) ?_
          refine VD.gn rfl rfl rfl rfl (by decide) ?_
          refine VD.q rfl (q_pick_t rfl rfl) (by decide) ?_
          refine VD.mt true [0, 1, 5, 53] (fun _ _ h => h) hS rfl
        ·
          replace hS := it_t h28 hS
          refine VD.gy rfl rfl rfl (q_move rfl) (by decide) ?_
          refine VD.gy rfl rfl rfl (q_move rfl) (by decide) ?_
          obtain ⟨z31_6, nz31_6, hz31_6, hS⟩ := at_s hS
          refine VD.gy rfl rfl rfl (q_ixm (s := a_0) Tryz.underlying23 gsz41 rfl rfl nz31_6 (lt_of_get nz31_6 hz31_6)) (by decide) ?_
          refine VD.gy rfl rfl rfl (q_field gfa41_1 rfl) (by decide) ?_
          refine VD.gy rfl rfl rfl (q_elf (s := a_0) gone3 rfl hz31_6 rfl) (by decide) ?_
          refine VD.gy rfl rfl rfl (q_move rfl) (by decide) ?_
          refine VD.gy rfl rfl rfl (q_move rfl) (by decide) ?_
          obtain ⟨z36_7, nz36_7, hz36_7, hS⟩ := at_s hS
          refine VD.gy rfl rfl rfl (q_ixm (s := b_1) Tryz.underlying28 gsz111 rfl rfl nz36_7 (lt_of_get nz36_7 hz36_7)) (by decide) ?_
          refine VD.gy rfl rfl rfl (q_field gfa111_1 rfl) (by decide) ?_
          refine VD.gy rfl rfl rfl (q_elf (s := b_1) gone3 rfl hz36_7 rfl) (by decide) ?_
          refine VD.gy rfl rfl rfl (q_neq rfl rfl) (by decide) ?_
          refine VD.q rfl (q_pick_f rfl rfl) (by decide) ?_
          refine VD.q rfl (q_move rfl) (by decide) ?_
          refine VD.split_ndec 41 rfl (fun h41 => ?_) (fun h41 => ?_)
          ·
            replace hS := it_f h41 hS
            refine VD.gn rfl rfl rfl rfl (by decide) ?_
            refine VD.gn rfl rfl rfl rfl (by decide) ?_
            refine VD.gn rfl rfl rfl rfl (by decide) ?_
            refine VD.gn rfl rfl rfl rfl (by decide) ?_
            refine VD.gn rfl rfl rfl rfl (by decide) ?_
            refine VD.gn rfl rfl rfl rfl (by decide) ?_
            refine VD.gn rfl rfl rfl rfl (by decide) ?_
            refine VD.gn rfl rfl rfl rfl (by decide) ?_
            refine VD.gn rfl rfl rfl rfl (by decide) ?_
            refine VD.gn rfl rfl rfl rfl (by decide) ?_
            refine VD.gn rfl rfl rfl rfl (by decide) ?_
            refine VD.q rfl (q_pick_t rfl rfl) (by decide) ?_
            refine VD.mt true [0, 1, 5, 53] (fun _ _ h => h) hS rfl
          ·
            replace hS := it_t h41 hS
            refine VD.gy rfl rfl rfl (q_move rfl) (by decide) ?_
            refine VD.gy rfl rfl rfl (q_move rfl) (by decide) ?_
            obtain ⟨z44_8, nz44_8, hz44_8, hS⟩ := at_s hS
            refine VD.gy rfl rfl rfl (q_ixm (s := a_0) Tryz.underlying23 gsz41 rfl rfl nz44_8 (lt_of_get nz44_8 hz44_8)) (by decide) ?_
            refine VD.gy rfl rfl rfl (q_field gfa41_2 rfl) (by decide) ?_
            refine VD.gy rfl rfl rfl (q_elf (s := a_0) gone9 rfl hz44_8 rfl) (by decide) ?_
            refine VD.gy rfl rfl rfl (q_move rfl) (by decide) ?_
            refine VD.gy rfl rfl rfl (q_move rfl) (by decide) ?_
            obtain ⟨z49_9, nz49_9, hz49_9, hS⟩ := at_s hS
            refine VD.gy rfl rfl rfl (q_ixm (s := b_1) Tryz.underlying28 gsz111 rfl rfl nz49_9 (lt_of_get nz49_9 hz49_9)) (by decide) ?_
            refine VD.gy rfl rfl rfl (q_field gfa111_2 rfl) (by decide) ?_
            refine VD.gy rfl rfl rfl (q_elf (s := b_1) gone9 rfl hz49_9 rfl) (by decide) ?_
            refine VD.gy rfl rfl rfl (q_sne rfl rfl) (by decide) ?_
            refine VD.q rfl (q_pick_f rfl rfl) (by decide) ?_
            refine VD.mt (!decide (z44_8.text = z49_9.text)) [0, 1, 5, 53] (fun _ _ h => h) hS rfl
      · -- from there
        clear hS
        rintro x53_2 hS
        show VC _ _ _ _ _ [(0, a_0.val), (1, b_1.val), (5, i64 i5_1), (53, .bool x53_2)] (Mo.and Mo.tt _) (Ow.emp)
        refine VC.cond rfl (fun h53 => ?_) (fun h53 => ?_)
        ·
          replace hS := it_t h53 hS
          refine VC.seq ?_
          refine VC.region ?_
          refine VL.q (q_assign rfl) (by decide) ?_
          refine VL.to (fun _ _ h => h) ?_
          replace hS := up2 hS hK1
          cases hS
          exact VC.ret (fin1 (.inr rfl) rfl rfl () rfl trivial (fun _ _ => trivial) (fun _ _ => trivial))
        ·
          replace hS := it_b h53 hS
          refine VC.skip_to (fun _ _ h => h) ?_
          refine VC.region ?_
          refine VL.q (q_move rfl) (by decide) ?_
          obtain ⟨b16, hS⟩ := gd_s hS
          refine VL.q (q_add rfl rfl b16) (by decide) ?_
          refine VL.q (q_assign rfl) (by decide) ?_
          refine VL.rnd (i5_1 + 1) [0, 1, 5] (fun _ _ h => h) (go2 hS hK1) rfl
    ·
      replace hS := it_f h14 hS
      replace hS := up2 hS hK1
      refine VC.exit_to (fun _ _ h => h) ?_
      refine VC.seq ?_
      refine VC.region ?_
      refine VL.q (q_assign rfl) (by decide) ?_
      refine VL.to (fun _ _ h => h) ?_
      cases hS
      exact VC.ret (fin1 (.inr rfl) rfl rfl () rfl trivial (fun _ _ => trivial) (fun _ _ => trivial))

set_option maxHeartbeats 4000000 in
set_option maxRecDepth 100000 in
theorem rectolaw21_TodoTexts_ct (s_0 : Str) {r : Bool} (hS : Sh.rectolaw21_TodoTexts s_0 = some r) :
    Ct Tryz.prog 3 [str s_0] Gl (Ow.emp) (X := Unit) (fun _ => .bool r) (fun _ => True) (fun _ => Mo.tt) (fun _ => Ow.emp) := by
  refine Ct.of Tryz.func3 rfl (by kernel_rfl) Tryz.ntmps3 (by simp) fun c => ?_
  unfold Sh.rectolaw21_TodoTexts at hS
  refine VC.seq ?_
  refine VC.region ?_
  refine VL.q (q_assign rfl) (by decide) ?_
  refine VL.to (fun _ _ h => h) ?_
  refine VC.seq ?_
  refine VC.seq ?_
  refine VC.region ?_
  obtain ⟨y7_1, ey7_1, hS⟩ := bd_s hS
  refine VL.q (q_call (rectolaw21_known_ct ey7_1) rfl (fun _ _ => rfl)) (by decide) ?_
  refine VL.q (q_not rfl) (by decide) ?_
  refine VL.to (fun _ _ h => h) ?_
  refine VC.cond rfl (fun h8 => ?_) (fun h8 => ?_)
  ·
    replace hS := it_t h8 hS
    refine VC.seq ?_
    refine VC.region ?_
    refine VL.q (q_assign rfl) (by decide) ?_
    refine VL.to (fun _ _ h => h) ?_
    cases hS
    exact VC.ret (fin1 (.inr rfl) rfl rfl () rfl trivial (fun _ _ => trivial) (fun _ _ => trivial))
  ·
    replace hS := it_b h8 hS
    refine VC.skip_to (fun _ _ h => h) ?_
    refine VC.seq ?_
    refine VC.seq ?_
    refine VC.region ?_
    refine VL.q (q_move rfl) (by decide) ?_
    refine VL.q (q_slen Tryz.underlying9 rfl) (by decide) ?_
    refine VL.q (q_gtr rfl rfl) (by decide) ?_
    refine VL.to (fun _ _ h => h) ?_
    refine VC.cond_dec rfl (fun h11 => ?_) (fun h11 => ?_)
    ·
      replace hS := it_t h11 hS
      refine VC.seq ?_
      refine VC.region ?_
      refine VL.q (q_assign rfl) (by decide) ?_
      refine VL.to (fun _ _ h => h) ?_
      cases hS
      exact VC.ret (fin1 (.inr rfl) rfl rfl () rfl trivial (fun _ _ => trivial) (fun _ _ => trivial))
    ·
      replace hS := it_f h11 hS
      refine VC.skip_to (fun _ _ h => h) ?_
      refine VC.seq ?_
      refine VC.region ?_
      refine VL.q (q_move rfl) (by decide) ?_
      obtain ⟨y14_2, ey14_2, hS⟩ := bd_s hS
      refine VL.callF (todo_Parse_ct s_0 ey14_2) rfl (by decide) ?_
      rintro ⟨q14_2_0, q14_2_1⟩ rfl
      try dsimp only
      refine VL.q (q_move rfl) (by decide) ?_
      refine VL.q (q_extract rfl rfl) (by decide) ?_
      refine VL.q (q_extract rfl rfl) (by decide) ?_
      refine VL.q (q_assign rfl) (by decide) ?_
      refine VL.q (q_assign rfl) (by decide) ?_
      refine VL.to (fun _ _ h => h) ?_
      refine VC.keep [0, 3, 4] rfl ?_
      refine VC.seq ?_
      refine VC.region ?_
      refine VL.q (q_move rfl) (by decide) ?_
      obtain ⟨y19_3, ey19_3, hS⟩ := bd_s hS
      refine VL.callO (rectoref17_Parse_ct s_0 ey19_3) rfl (by decide) ?_
      rintro ⟨q19_3_0, q19_3_1⟩ rfl
      try dsimp only
      refine VL.q (q_move rfl) (by decide) ?_
      refine VL.q (q_extract rfl rfl) (by decide) ?_
      refine VL.q (q_extract rfl rfl) (by decide) ?_
      refine VL.alloc (cs := [.slice none 0 0, i64 0]) (by kernel_rfl) (by decide) fun b6_4 => ?_
      refine VL.q (q_assign rfl) (by decide) ?_
      refine VL.store (vc := [q19_3_1.parts.val, i64 q19_3_1.err]) (cs' := [q19_3_1.parts.val, i64 q19_3_1.err]) rfl rfl rfl gsz31 rfl rfl (Nat.le_of_ble_eq_true rfl) rfl ?_
      refine VL.to (fun _ _ h => h) ?_
      refine VC.seq ?_
      refine VC.region ?_
      refine VL.q (q_move rfl) (by decide) ?_
      refine VL.q (q_fes gagg31 rfl rfl) (by decide) ?_
      obtain ⟨y24_5, ey24_5, hS⟩ := bd_s hS
      refine VL.q (q_call (rectolaw2_Tells_ct q14_2_1 q19_3_1 ey24_5) rfl (fun _ _ => rfl)) (by decide) ?_
      refine VL.q (q_move rfl) (by decide) ?_
      refine VL.split 25 rfl (fun h25 => ?_) (fun h25 => ?_)
      ·
        replace hS := it_t h25 hS
        refine VL.gy rfl rfl (q_move rfl) (by decide) ?_
        refine VL.gy rfl rfl (q_move rfl) (by decide) ?_
        obtain ⟨y28_6, ey28_6, hS⟩ := bd_s hS
        refine VL.gy rfl rfl (q_callR (rectolaw21_Same_ct q14_2_0 q19_3_0 ey28_6) rfl (fun _ _ => rfl)) (by decide) ?_
        refine VL.q (q_pick_t rfl rfl) (by decide) ?_
        refine VL.q (q_assign rfl) (by decide) ?_
        refine VL.to (fun _ _ h => h) ?_
        refine VC.keep [2] rfl ?_
        cases hS
        exact VC.ret (fin1 (.inr rfl) rfl rfl () rfl trivial (fun _ _ => trivial) (fun _ _ => trivial))
      ·
        replace hS := it_b h25 hS
        refine VL.gn rfl rfl rfl (by decide) ?_
        refine VL.gn rfl rfl rfl (by decide) ?_
        refine VL.gn rfl rfl rfl (by decide) ?_
        refine VL.q (q_pick_f rfl rfl) (by decide) ?_
        refine VL.q (q_assign rfl) (by decide) ?_
        refine VL.to (fun _ _ h => h) ?_
        refine VC.keep [2] rfl ?_
        cases hS
        exact VC.ret (fin1 (.inr rfl) rfl rfl () rfl trivial (fun _ _ => trivial) (fun _ _ => trivial))

set_option maxHeartbeats 4000000 in
set_option maxRecDepth 100000 in
theorem rectoref17_Check_ct (a_0 : Sv (Sv Int)) {r : Int} (hS : Sh.rectoref17_Check (a_0.l.map Sv.l) = some r) :
    Ct Tryz.prog 14 [a_0.val] a_0.ok (Ow.emp) (X := Unit) (fun _ => i64 r) (fun _ => True) (fun _ => Mo.tt) (fun _ => Ow.emp) := by
  refine Ct.of Tryz.func14 rfl (by kernel_rfl) Tryz.ntmps14 (by simp) fun c => ?_
  unfold Sh.rectoref17_Check at hS
  refine VC.seq ?_
  refine VC.region ?_
  refine VL.q (q_assign rfl) (by decide) ?_
  refine VL.to (fun _ _ h => h) ?_
  refine VC.seq ?_
  refine VC.seq ?_
  refine VC.region ?_
  refine VL.q (q_move rfl) (by decide) ?_
  refine VL.q (q_lnm Sv.l (s := a_0) Tryz.underlying37 rfl) (by decide) ?_
  refine VL.q (q_gtr rfl rfl) (by decide) ?_
  refine VL.to (fun _ _ h => h) ?_
  refine VC.cond_dec rfl (fun h7 => ?_) (fun h7 => ?_)
  ·
    replace hS := it_t h7 hS
    refine VC.seq ?_
    refine VC.region ?_
    refine VL.q (q_assign rfl) (by decide) ?_
    refine VL.to (fun _ _ h => h) ?_
    cases hS
    exact VC.ret (fin1 (.inr rfl) rfl rfl () rfl trivial (fun _ _ => trivial) (fun _ _ => trivial))
  ·
    replace hS := it_f h7 hS
    refine VC.skip_to (fun _ _ h => h) ?_
    refine VC.seq ?_
    refine VC.seq ?_
    refine VC.region ?_
    refine VL.q (q_assign rfl) (by decide) ?_
    refine VL.to (fun _ _ h => h) ?_
    refine VC.block ?_
    refine VC.iter (S := Int) (fun (x3_1 : Int) => x3_1) (fun (x3_1 : Int) => [(0, a_0.val), (3, i64 x3_1)]) (fun (x3_1 : Int) => Mo.tt) (fun (x3_1 : Int) => Ow.emp) 0 [0, 3] hS rfl ?_
    clear hS
    rintro x3_1 m1 y1 hS hK1
    show VC _ _ _ _ _ [(0, a_0.val), (3, i64 x3_1)] (Mo.and Mo.tt _) (Ow.emp)
    refine VC.seq ?_
    refine VC.seq ?_
    refine VC.region ?_
    refine VL.q (q_move rfl) (by decide) ?_
    refine VL.q (q_move rfl) (by decide) ?_
    refine VL.q (q_lnm Sv.l (s := a_0) Tryz.underlying37 rfl) (by decide) ?_
    refine VL.q (q_lss rfl rfl) (by decide) ?_
    refine VL.to (fun _ _ h => h) ?_
    refine VC.cond_dec rfl (fun h11 => ?_) (fun h11 => ?_)
    ·
      replace hS := it_t h11 hS
      refine VC.skip_to (fun _ _ h => h) ?_
      refine VC.cutJ (S := Unit) (fun (_ : Unit) => ()) (fun (_ : Unit) => [(0, a_0.val), (3, i64 x3_1)]) (fun (_ : Unit) => Mo.tt) (fun (_ : Unit) => Ow.emp) hS ?_ ?_
      · -- up to where ways meet
        clear hS
        intro k2 hS
        refine VC.block ?_
        refine VC.seq ?_
        refine VC.seq ?_
        refine VC.region ?_
        refine VL.q (q_move rfl) (by decide) ?_
        refine VL.q (q_move rfl) (by decide) ?_
        obtain ⟨z16_3, nz16_3, hz16_3, hS⟩ := atm_s hS
        refine VL.deep z16_3.ok hz16_3 (fun _ q => q) ?_
        refine VL.q (q_ixm (s := a_0) Tryz.underlying37 gsz53 rfl rfl nz16_3 (lt_of_get nz16_3 hz16_3)) (by decide) ?_
        refine VL.q (q_el (s := a_0) gone53 rfl hz16_3 rfl) (by decide) ?_
        refine VL.q (q_ln (s := z16_3) Tryz.underlying53 rfl) (by decide) ?_
        refine VL.q (q_gtr rfl rfl) (by decide) ?_
        refine VL.to (fun _ _ h => h) ?_
        refine VC.keep [0, 3, 19] rfl ?_
        refine VC.cond_dec rfl (fun h19 => ?_) (fun h19 => ?_)
        ·
          replace hS := it_t h19 hS
          refine VC.seq ?_
          refine VC.region ?_
          refine VL.q (q_assign rfl) (by decide) ?_
          refine VL.to (fun _ _ h => h) ?_
          replace hS := up2 hS hK1
          cases hS
          exact VC.ret (fin1 (.inr rfl) rfl rfl () rfl trivial (fun _ _ => trivial) (fun _ _ => trivial))
        ·
          replace hS := it_f h19 hS
          refine VC.skip_to (fun _ _ h => h) ?_
          refine VC.seq ?_
          refine VC.seq ?_
          refine VC.region ?_
          refine VL.q (q_assign rfl) (by decide) ?_
          refine VL.to (fun _ _ h => h) ?_
          refine VC.block ?_
          refine VC.iter (S := Int) (fun (x4_4 : Int) => x4_4) (fun (x4_4 : Int) => [(0, a_0.val), (3, i64 x3_1), (4, i64 x4_4)]) (fun (x4_4 : Int) => Mo.tt) (fun (x4_4 : Int) => Ow.emp) 0 [0, 3, 4] hS rfl ?_
          clear hS
          rintro x4_4 m2 y2 hS hK2
          show VC _ _ _ _ _ [(0, a_0.val), (3, i64 x3_1), (4, i64 x4_4)] (Mo.and Mo.tt _) (Ow.emp)
          refine VC.seq ?_
          refine VC.seq ?_
          refine VC.region ?_
          refine VL.q (q_move rfl) (by decide) ?_
          refine VL.q (q_move rfl) (by decide) ?_
          refine VL.q (q_move rfl) (by decide) ?_
          obtain ⟨z23_5, nz23_5, hz23_5, hS⟩ := atm_s hS
          refine VL.deep z23_5.ok hz23_5 (fun _ q => q) ?_
          refine VL.q (q_ixm (s := a_0) Tryz.underlying37 gsz53 rfl rfl nz23_5 (lt_of_get nz23_5 hz23_5)) (by decide) ?_
          refine VL.q (q_el (s := a_0) gone53 rfl hz23_5 rfl) (by decide) ?_
          refine VL.q (q_ln (s := z23_5) Tryz.underlying53 rfl) (by decide) ?_
          refine VL.q (q_lss rfl rfl) (by decide) ?_
          refine VL.to (fun _ _ h => h) ?_
          refine VC.cond_dec rfl (fun h26 => ?_) (fun h26 => ?_)
          ·
            replace hS := it_t h26 hS
            refine VC.skip_to (fun _ _ h => h) ?_
            refine VC.seq ?_
            refine VC.block ?_
            refine VC.cutJ (S := Bool) (fun (x47_6 : Bool) => x47_6) (fun (x47_6 : Bool) => [(0, a_0.val), (3, i64 x3_1), (4, i64 x4_4), (47, .bool x47_6)]) (fun (x47_6 : Bool) => Mo.tt) (fun (x47_6 : Bool) => Ow.emp) hS ?_ ?_
            · -- up to where ways meet
              clear hS
              intro k7 hS
              refine VC.region ?_
              refine VL.q (q_move rfl) (by decide) ?_
              refine VL.q (q_move rfl) (by decide) ?_
              obtain ⟨z31_8, nz31_8, hz31_8, hS⟩ := atm_s hS
              refine VL.deep z31_8.ok hz31_8 (fun _ q => q) ?_
              refine VL.q (q_ixm (s := a_0) Tryz.underlying37 gsz53 rfl rfl nz31_8 (lt_of_get nz31_8 hz31_8)) (by decide) ?_
              refine VL.q (q_el (s := a_0) gone53 rfl hz31_8 rfl) (by decide) ?_
              refine VL.q (q_move rfl) (by decide) ?_
              obtain ⟨z34_9, nz34_9, hz34_9, hS⟩ := at_s hS
              refine VL.q (q_ixm (s := z31_8) Tryz.underlying53 gsz3 rfl rfl nz34_9 (lt_of_get nz34_9 hz34_9)) (by decide) ?_
              refine VL.q (q_el (s := z31_8) gone3 rfl hz34_9 rfl) (by decide) ?_
              refine VL.q (q_lss rfl rfl) (by decide) ?_
              refine VL.q (q_move rfl) (by decide) ?_
              refine VL.split_dec 37 rfl (fun h37 => ?_) (fun h37 => ?_)
              ·
                replace hS := it_t h37 hS
                refine VL.gn rfl rfl rfl (by decide) ?_
                refine VL.gn rfl rfl rfl (by decide) ?_
                refine VL.gn rfl rfl rfl (by decide) ?_
                refine VL.gn rfl rfl rfl (by decide) ?_
                refine VL.gn rfl rfl rfl (by decide) ?_
                refine VL.gn rfl rfl rfl (by decide) ?_
                refine VL.gn rfl rfl rfl (by decide) ?_
                refine VL.gn rfl rfl rfl (by decide) ?_
                refine VL.gn rfl rfl rfl (by decide) ?_
                refine VL.q (q_pick_t rfl rfl) (by decide) ?_
                refine VL.mt true [0, 3, 4, 47] (fun _ _ h => h) hS rfl
              ·
                replace hS := it_f h37 hS
                refine VL.gy rfl rfl (q_move rfl) (by decide) ?_
                refine VL.gy rfl rfl (q_move rfl) (by decide) ?_
                obtain ⟨z40_10, nz40_10, hz40_10, hS⟩ := atm_s hS
                refine VL.deep z40_10.ok hz40_10 (fun _ q => q) ?_
                refine VL.gy rfl rfl (q_ixm (s := a_0) Tryz.underlying37 gsz53 rfl rfl nz40_10 (lt_of_get nz40_10 hz40_10)) (by decide) ?_
                refine VL.gy rfl rfl (q_el (s := a_0) gone53 rfl hz40_10 rfl) (by decide) ?_
                refine VL.gy rfl rfl (q_move rfl) (by decide) ?_
                obtain ⟨z43_11, nz43_11, hz43_11, hS⟩ := at_s hS
                refine VL.gy rfl rfl (q_ixm (s := z40_10) Tryz.underlying53 gsz3 rfl rfl nz43_11 (lt_of_get nz43_11 hz43_11)) (by decide) ?_
                refine VL.gy rfl rfl (q_el (s := z40_10) gone3 rfl hz43_11 rfl) (by decide) ?_
                refine VL.gy rfl rfl (q_move rfl) (by decide) ?_
                refine VL.gy rfl rfl (q_gtr rfl rfl) (by decide) ?_
                refine VL.q (q_pick_f rfl rfl) (by decide) ?_
                refine VL.mt (decide (x3_1 < z43_11)) [0, 3, 4, 47] (fun _ _ h => h) hS rfl
            · -- from there
              clear hS
              rintro x47_6 hS
              show VC _ _ _ _ _ [(0, a_0.val), (3, i64 x3_1), (4, i64 x4_4), (47, .bool x47_6)] (Mo.and Mo.tt _) (Ow.emp)
              refine VC.cond rfl (fun h47 => ?_) (fun h47 => ?_)
              ·
                replace hS := it_t h47 hS
                refine VC.seq ?_
                refine VC.region ?_
                refine VL.q (q_assign rfl) (by decide) ?_
                refine VL.to (fun _ _ h => h) ?_
                replace hS := up2 hS hK2
                replace hS := up2 hS hK1
                cases hS
                exact VC.ret (fin1 (.inr rfl) rfl rfl () rfl trivial (fun _ _ => trivial) (fun _ _ => trivial))
              ·
                replace hS := it_b h47 hS
                refine VC.skip_to (fun _ _ h => h) ?_
                refine VC.region ?_
                refine VL.q (q_move rfl) (by decide) ?_
                obtain ⟨b28, hS⟩ := gd_s hS
                refine VL.q (q_add rfl rfl b28) (by decide) ?_
                refine VL.q (q_assign rfl) (by decide) ?_
                refine VL.rnd (x4_4 + 1) [0, 3, 4] (fun _ _ h => h) (go2 hS hK2) rfl
          ·
            replace hS := it_f h26 hS
            replace hS := up2 hS hK2
            refine VC.exit_to (fun _ _ h => h) ?_
            refine VC.cutJ (S := Bool) (fun (x68_12 : Bool) => x68_12) (fun (x68_12 : Bool) => [(0, a_0.val), (3, i64 x3_1), (68, .bool x68_12)]) (fun (x68_12 : Bool) => Mo.tt) (fun (x68_12 : Bool) => Ow.emp) hS ?_ ?_
            · -- up to where ways meet
              clear hS
              intro k13 hS
              refine VC.draw ((List.range 21).map fun k => (k, true)) mixed (by kernel_rfl) (by kernel_rfl) (by kernel_rfl) ?_
              refine VD.q rfl (q_move rfl) (by decide) ?_
              refine VD.q rfl (q_move rfl) (by decide) ?_
              obtain ⟨z50_14, nz50_14, hz50_14, hS⟩ := atm_s hS
              refine VD.deep z50_14.ok hz50_14 (fun _ q => q) ?_
              refine VD.q rfl (q_ixm (s := a_0) Tryz.underlying37 gsz53 rfl rfl nz50_14 (lt_of_get nz50_14 hz50_14)) (by decide) ?_
              refine VD.q rfl (q_el (s := a_0) gone53 rfl hz50_14 rfl) (by decide) ?_
              refine VD.q rfl (q_ln (s := z50_14) Tryz.underlying53 rfl) (by decide) ?_
              refine VD.q rfl (q_eql rfl rfl) (by decide) ?_
              refine VD.q rfl (q_move rfl) (by decide) ?_
              refine VD.split_dec 54 rfl (fun h54 => ?_) (fun h54 => ?_)
              ·
                replace hS := it_t h54 hS
                refine VD.gy rfl rfl rfl (q_move rfl) (by decide) ?_
                refine VD.gy rfl rfl rfl (q_move rfl) (by decide) ?_
                obtain ⟨z57_15, nz57_15, hz57_15, hS⟩ := atm_s hS
                refine VD.deep z57_15.ok hz57_15 (fun _ q => q) ?_
                refine VD.gy rfl rfl rfl (q_ixm (s := a_0) Tryz.underlying37 gsz53 rfl rfl nz57_15 (lt_of_get nz57_15 hz57_15)) (by decide) ?_
                refine VD.gy rfl rfl rfl (q_el (s := a_0) gone53 rfl hz57_15 rfl) (by decide) ?_
                obtain ⟨z59_16, nz59_16, hz59_16, hS⟩ := at_s hS
                refine VD.gy rfl rfl rfl (q_ixm (s := z57_15) Tryz.underlying53 gsz3 rfl rfl nz59_16 (lt_of_get nz59_16 hz59_16)) (by decide) ?_
                refine VD.gy rfl rfl rfl (q_el (s := z57_15) gone3 rfl hz59_16 rfl) (by decide) ?_
                refine VD.gy rfl rfl rfl (q_move rfl) (by decide) ?_
                refine VD.gy rfl rfl rfl (q_move rfl) (by decide) ?_
                obtain ⟨z63_17, nz63_17, hz63_17, hS⟩ := atm_s hS
                refine VD.deep z63_17.ok hz63_17 (fun _ q => q) ?_
                refine VD.gy rfl rfl rfl (q_ixm (s := a_0) Tryz.underlying37 gsz53 rfl rfl nz63_17 (lt_of_get nz63_17 hz63_17)) (by decide) ?_
                refine VD.gy rfl rfl rfl (q_el (s := a_0) gone53 rfl hz63_17 rfl) (by decide) ?_
                obtain ⟨z65_18, nz65_18, hz65_18, hS⟩ := at_s hS
                refine VD.gy rfl rfl rfl (q_ixm (s := z63_17) Tryz.underlying53 gsz3 rfl rfl nz65_18 (lt_of_get nz65_18 hz65_18)) (by decide) ?_
                refine VD.gy rfl rfl rfl (q_el (s := z63_17) gone3 rfl hz65_18 rfl) (by decide) ?_
                refine VD.gy rfl rfl rfl (q_eql rfl rfl) (by decide) ?_
                refine VD.q rfl (q_pick_t rfl rfl) (by decide) ?_
                refine VD.mt (decide (z59_16 = z65_18)) [0, 3, 68] (fun _ _ h => h) hS rfl
              ·
                replace hS := it_f h54 hS
                refine VD.gn rfl rfl rfl rfl (by decide) ?_
                refine VD.gn rfl rfl rfl rfl (by decide) ?_
                refine VD.gn rfl rfl rfl rfl (by decide) ?_
                refine VD.gn rfl rfl rfl rfl (by decide) ?_
                refine VD.gn rfl rfl rfl rfl (by decide) ?_
                refine VD.gn rfl rfl rfl rfl (by decide) ?_
                refine VD.gn rfl rfl rfl rfl (by decide) ?_
                refine VD.gn rfl rfl rfl rfl (by decide) ?_
                refine VD.gn rfl rfl rfl rfl (by decide) ?_
                refine VD.gn rfl rfl rfl rfl (by decide) ?_
                refine VD.gn rfl rfl rfl rfl (by decide) ?_
                refine VD.gn rfl rfl rfl rfl (by decide) ?_
                refine VD.gn rfl rfl rfl rfl (by decide) ?_
                refine VD.q rfl (q_pick_f rfl rfl) (by decide) ?_
                refine VD.mt false [0, 3, 68] (fun _ _ h => h) hS rfl
            · -- from there
              clear hS
              rintro x68_12 hS
              show VC _ _ _ _ _ [(0, a_0.val), (3, i64 x3_1), (68, .bool x68_12)] (Mo.and Mo.tt _) (Ow.emp)
              refine VC.cond rfl (fun h68 => ?_) (fun h68 => ?_)
              ·
                replace hS := it_t h68 hS
                refine VC.seq ?_
                refine VC.region ?_
                refine VL.q (q_assign rfl) (by decide) ?_
                refine VL.to (fun _ _ h => h) ?_
                replace hS := up2 hS hK1
                cases hS
                exact VC.ret (fin1 (.inr rfl) rfl rfl () rfl trivial (fun _ _ => trivial) (fun _ _ => trivial))
              ·
                replace hS := it_b h68 hS
                refine VC.skip_mt () [0, 3] (fun _ _ h => h) hS rfl
      · -- from there
        clear hS
        rintro _ hS
        show VC _ _ _ _ _ [(0, a_0.val), (3, i64 x3_1)] (Mo.and Mo.tt _) (Ow.emp)
        refine VC.region ?_
        refine VL.q (q_move rfl) (by decide) ?_
        obtain ⟨b13, hS⟩ := gd_s hS
        refine VL.q (q_add rfl rfl b13) (by decide) ?_
        refine VL.q (q_assign rfl) (by decide) ?_
        refine VL.rnd (x3_1 + 1) [0, 3] (fun _ _ h => h) (go2 hS hK1) rfl
    ·
      replace hS := it_f h11 hS
      replace hS := up2 hS hK1
      refine VC.exit_to (fun _ _ h => h) ?_
      refine VC.seq ?_
      refine VC.region ?_
      refine VL.q (q_assign rfl) (by decide) ?_
      refine VL.to (fun _ _ h => h) ?_
      cases hS
      exact VC.ret (fin1 (.inr rfl) rfl rfl () rfl trivial (fun _ _ => trivial) (fun _ _ => trivial))

set_option maxHeartbeats 4000000 in
set_option maxRecDepth 100000 in
theorem rectolaw21_Of_ct (l_0 : Sv TodoStep) {r : List Rectoref17Step} (hS : Sh.rectolaw21_Of l_0.l = some r) :
    Ct Tryz.prog 19 [l_0.val] l_0.ok (Ow.emp) (X := Sv Rectoref17Step) (fun x => x.val) (fun x => r = x.l) (fun x => Mo.tt) (fun x => Sv.own x 111) := by
  refine Ct.of Tryz.func19 rfl (by kernel_rfl) Tryz.ntmps19 (by simp) fun c => ?_
  unfold Sh.rectolaw21_Of at hS
  refine VC.seq ?_
  refine VC.region ?_
  refine VL.q (q_assign rfl) (by decide) ?_
  refine VL.to (fun _ _ h => h) ?_
  refine VC.seq ?_
  refine VC.region ?_
  refine VL.q (q_assign rfl) (by decide) ?_
  refine VL.to (fun _ _ h => h) ?_
  refine VC.seq ?_
  refine VC.seq ?_
  refine VC.region ?_
  refine VL.q (q_assign rfl) (by decide) ?_
  refine VL.to (fun _ _ h => h) ?_
  refine VC.block ?_
  refine VC.nilO (⟨none, 0, []⟩ : Sv Rectoref17Step) 111 ⟨rfl, rfl⟩ ?_
  refine VC.iter (S := Sv Rectoref17Step × Int) (fun sg => (sg.1.l, sg.2)) (fun sg => [(0, l_0.val), (3, sg.1.val), (4, i64 sg.2)]) (fun sg => Mo.tt) (fun sg => Ow.star (Sv.own sg.1 111) (Ow.emp)) (⟨none, 0, []⟩, 0) [0, 3, 4] hS rfl ?_
  clear hS
  rintro ⟨out3_1, i4_2⟩ m1 y1 hS hK1
  show VC _ _ _ _ _ [(0, l_0.val), (3, out3_1.val), (4, i64 i4_2)] (Mo.and Mo.tt _) (Ow.star (Sv.own out3_1 111) (Ow.emp))
  refine VC.seq ?_
  refine VC.seq ?_
  refine VC.region ?_
  refine VL.q (q_move rfl) (by decide) ?_
  refine VL.q (q_move rfl) (by decide) ?_
  refine VL.q (q_ln (s := l_0) Tryz.underlying23 rfl) (by decide) ?_
  refine VL.q (q_lss rfl rfl) (by decide) ?_
  refine VL.to (fun _ _ h => h) ?_
  refine VC.cond_dec rfl (fun h8 => ?_) (fun h8 => ?_)
  ·
    replace hS := it_t h8 hS
    refine VC.skip_to (fun _ _ h => h) ?_
    refine VC.seq ?_
    refine VC.block ?_
    refine VC.draw [(0, true), (1, true), (2, true), (3, true), (4, true), (5, true), (6, true), (7, true), (8, true), (9, true), (10, true), (11, true), (12, true), (13, true), (14, true), (15, true), (16, true), (17, false), (18, false), (19, true)] mixed (by kernel_rfl) (by kernel_rfl) (by kernel_rfl) ?_
    refine VD.q rfl (q_move rfl) (by decide) ?_
    refine VD.q rfl (q_move rfl) (by decide) ?_
    refine VD.q rfl (q_move rfl) (by decide) ?_
    obtain ⟨z14_3, nz14_3, hz14_3, hS⟩ := at_s hS
    refine VD.q rfl (q_ixm (s := l_0) Tryz.underlying23 gsz41 rfl rfl nz14_3 (lt_of_get nz14_3 hz14_3)) (by decide) ?_
    refine VD.q rfl (q_field gfa41_0 rfl) (by decide) ?_
    refine VD.q rfl (q_elf (s := l_0) gone9 rfl hz14_3 rfl) (by decide) ?_
    refine VD.q rfl (q_move rfl) (by decide) ?_
    refine VD.q rfl (q_move rfl) (by decide) ?_
    obtain ⟨z19_4, nz19_4, hz19_4, hS⟩ := at_s hS
    refine VD.q rfl (q_ixm (s := l_0) Tryz.underlying23 gsz41 rfl rfl nz19_4 (lt_of_get nz19_4 hz19_4)) (by decide) ?_
    refine VD.q rfl (q_field gfa41_1 rfl) (by decide) ?_
    refine VD.q rfl (q_elf (s := l_0) gone3 rfl hz19_4 rfl) (by decide) ?_
    refine VD.q rfl (q_move rfl) (by decide) ?_
    refine VD.q rfl (q_move rfl) (by decide) ?_
    obtain ⟨z24_5, nz24_5, hz24_5, hS⟩ := at_s hS
    refine VD.q rfl (q_ixm (s := l_0) Tryz.underlying23 gsz41 rfl rfl nz24_5 (lt_of_get nz24_5 hz24_5)) (by decide) ?_
    refine VD.q rfl (q_field gfa41_2 rfl) (by decide) ?_
    refine VD.q rfl (q_elf (s := l_0) gone9 rfl hz24_5 rfl) (by decide) ?_
    refine VD.q rfl (q_build (vs := [(0, str z14_3.verb), (1, i64 z19_4.commit), (2, str z24_5.text)]) (cs := #[str z14_3.verb, i64 z19_4.commit, str z24_5.text]) rfl (by kernel_rfl)) (by decide) ?_
    refine VD.one rfl ?_
    refine VL.lit (α := Rectoref17Step) (xs := [.tmp 27]) (vs := [.agg #[str z14_3.verb, i64 z19_4.commit, str z24_5.text]]) [⟨z14_3.verb, z19_4.commit, z24_5.text⟩] Tryz.underlying28 glit111 (by decide) rfl rfl rfl rfl (by decide) (fun _ _ _ _ => trivial) (by decide) (fun s28_6 hs28_6 => ?_) (by decide)
    replace hS := lt_to hs28_6 hS
    refine VL.back (D' := []) (by kernel_rfl) (Pend.nil) ?_
    refine VD.one rfl ?_
    obtain ⟨b29, hS⟩ := gd_s hS
    refine VL.app (s := out3_1) (r := s28_6) Tryz.underlying28 gapp111 (by decide) rfl Fo.out (ap1 b29) (ap2 b29 (by decide)) (by decide) (fun s29_8 hs29_8 => ?_)
    replace hS := lt_to hs29_8 hS
    refine VL.back (D' := []) (by kernel_rfl) (Pend.nil) ?_
    refine VD.q rfl (q_assign rfl) (by decide) ?_
    refine VD.to (fun _ _ h => h) ?_
    refine VC.keep [0, 3, 4] rfl ?_
    refine VC.region ?_
    refine VL.q (q_move rfl) (by decide) ?_
    obtain ⟨b10, hS⟩ := gd_s hS
    refine VL.q (q_add rfl rfl b10) (by decide) ?_
    refine VL.q (q_assign rfl) (by decide) ?_
    refine VL.rnd (s29_8, (i4_2 + 1)) [0, 3, 4] (fun _ _ h => h) (go2 hS hK1) rfl
  ·
    replace hS := it_f h8 hS
    replace hS := up2 hS hK1
    refine VC.exit_to (fun _ _ h => h) ?_
    refine VC.seq ?_
    refine VC.region ?_
    refine VL.q (q_move rfl) (by decide) ?_
    refine VL.q (q_assign rfl) (by decide) ?_
    refine VL.to (fun _ _ h => h) ?_
    cases hS
    exact VC.ret (fin1 (.inr rfl) rfl rfl out3_1 rfl rfl (by (try dsimp only); exact InM.out) (by (try dsimp only); exact EntO.out))

set_option maxHeartbeats 4000000 in
set_option maxRecDepth 100000 in
theorem rectoref17_CheckTodo_ct (a_0 : Sv Rectoref17Step) (a_1 : Sv (Sv Int)) {r : Rectoref3WrongP} (hS : Sh.rectoref17_CheckTodo a_0.l (a_1.l.map Sv.l) = some r) :
    Ct Tryz.prog 18 [a_0.val, a_1.val] (a_0.ok.and a_1.ok) (Ow.emp) (X := Rectoref3Wrong) (fun x => .agg (Dat.enc x).toArray) (fun x => r = x.pl) (fun x => x.m) (fun x => Ow.emp) := by
  refine Ct.of Tryz.func18 rfl (by kernel_rfl) Tryz.ntmps18 (by simp) fun c => ?_
  unfold Sh.rectoref17_CheckTodo at hS
  refine VC.seq ?_
  refine VC.region ?_
  refine VL.alloc (cs := [.slice none 0 0, i64 0]) (by kernel_rfl) (by decide) fun b4_1 => ?_
  refine VL.to (fun _ _ h => h) ?_
  refine VC.seq ?_
  refine VC.seq ?_
  refine VC.region ?_
  refine VL.q (q_move rfl) (by decide) ?_
  refine VL.q (q_ln (s := a_0) Tryz.underlying28 rfl) (by decide) ?_
  refine VL.q (q_gtr rfl rfl) (by decide) ?_
  refine VL.to (fun _ _ h => h) ?_
  refine VC.cond_dec rfl (fun h10 => ?_) (fun h10 => ?_)
  ·
    replace hS := it_t h10 hS
    refine VC.seq ?_
    refine VC.region ?_
    obtain ⟨y11_2, ey11_2, hS⟩ := bd_s hS
    refine VL.callF (rectoref3_At_ct [115, 116, 101, 112] 32 4 ey11_2) rfl (by decide) ?_
    rintro q11_2_0 rfl
    try dsimp only
    refine VL.store (vc := [q11_2_0.parts.val, i64 q11_2_0.err]) (cs' := [q11_2_0.parts.val, i64 q11_2_0.err]) rfl rfl rfl gsz31 rfl rfl (Nat.le_of_ble_eq_true rfl) rfl ?_
    refine VL.to (fun _ _ h => h) ?_
    cases hS
    exact VC.ret (finG (vs := [.agg #[q11_2_0.parts.val, i64 q11_2_0.err]]) (.inr rfl) rfl (RVs.cell gagg31 rfl rfl Rd.blk (RVs.nil)) ⟨q11_2_0.parts, q11_2_0.err⟩ rfl rfl (by (try dsimp only); exact InM.out) (fun _ _ => trivial))
  ·
    replace hS := it_f h10 hS
    refine VC.skip_to (fun _ _ h => h) ?_
    refine VC.seq ?_
    refine VC.region ?_
    refine VL.q (q_assign rfl) (by decide) ?_
    refine VL.to (fun _ _ h => h) ?_
    refine VC.seq ?_
    refine VC.seq ?_
    refine VC.region ?_
    refine VL.q (q_assign rfl) (by decide) ?_
    refine VL.to (fun _ _ h => h) ?_
    refine VC.block ?_
    refine VC.iter (S := Bool × Int) (fun sg => (sg.1, sg.2)) (fun sg => [(0, a_0.val), (1, a_1.val), (4, ptr b4_1 0), (5, .bool sg.1), (6, i64 sg.2)]) (fun sg => Mo.tt) (fun sg => Ow.star (Blk b4_1 [.slice none 0 0, i64 0] 31) (Ow.emp)) (true, 0) [0, 1, 4, 5, 6] hS rfl ?_
    clear hS
    rintro ⟨x5_3, x6_4⟩ m1 y1 hS hK1
    show VC _ _ _ _ _ [(0, a_0.val), (1, a_1.val), (4, ptr b4_1 0), (5, .bool x5_3), (6, i64 x6_4)] (Mo.and Mo.tt _) (Ow.star (Blk b4_1 [.slice none 0 0, i64 0] 31) (Ow.emp))
    refine VC.seq ?_
    refine VC.seq ?_
    refine VC.region ?_
    refine VL.q (q_move rfl) (by decide) ?_
    refine VL.q (q_move rfl) (by decide) ?_
    refine VL.q (q_ln (s := a_0) Tryz.underlying28 rfl) (by decide) ?_
    refine VL.q (q_lss rfl rfl) (by decide) ?_
    refine VL.to (fun _ _ h => h) ?_
    refine VC.cond_dec rfl (fun h15 => ?_) (fun h15 => ?_)
    ·
      replace hS := it_t h15 hS
      refine VC.skip_to (fun _ _ h => h) ?_
      refine VC.cutJ (S := Bool) (fun (x5_5 : Bool) => x5_5) (fun (x5_5 : Bool) => [(0, a_0.val), (1, a_1.val), (4, ptr b4_1 0), (5, .bool x5_5), (6, i64 x6_4)]) (fun (x5_5 : Bool) => Mo.tt) (fun (x5_5 : Bool) => Ow.star (Blk b4_1 [.slice none 0 0, i64 0] 31) (Ow.emp)) hS ?_ ?_
      · -- up to where ways meet
        clear hS
        intro k6 hS
        refine VC.block ?_
        refine VC.seq ?_
        refine VC.region ?_
        refine VL.q (q_move rfl) (by decide) ?_
        refine VL.q (q_move rfl) (by decide) ?_
        obtain ⟨z20_7, nz20_7, hz20_7, hS⟩ := at_s hS
        refine VL.q (q_ixm (s := a_0) Tryz.underlying28 gsz111 rfl rfl nz20_7 (lt_of_get nz20_7 hz20_7)) (by decide) ?_
        refine VL.q (q_els (s := a_0) gagg111 rfl rfl hz20_7) (by decide) ?_
        refine VL.alloc (cs := [str [], i64 0, str []]) (by kernel_rfl) (by decide) fun b7_8 => ?_
        refine VL.store (vc := [str z20_7.verb, i64 z20_7.commit, str z20_7.text]) (cs' := [str z20_7.verb, i64 z20_7.commit, str z20_7.text]) rfl rfl rfl gsz111 rfl rfl (Nat.le_of_ble_eq_true rfl) rfl ?_
        refine VL.to (fun _ _ h => h) ?_
        refine VC.keep [0, 1, 4, 5, 6, 7] rfl ?_
        refine VC.seq ?_
        refine VC.block ?_
        refine VC.seq ?_
        refine VC.region ?_
        refine VL.q (q_field gfa111_0 rfl) (by decide) ?_
        refine VL.q (q_fe gone9 rfl rfl) (by decide) ?_
        obtain ⟨y25_9, ey25_9, hS⟩ := bd_s hS
        refine VL.q (q_call (rectoref17_Verb_ct z20_7.verb ey25_9) rfl (fun _ _ => rfl)) (by decide) ?_
        refine VL.q (q_lss rfl rfl) (by decide) ?_
        refine VL.q (q_assign rfl) (by decide) ?_
        refine VL.to (fun _ _ h => h) ?_
        refine VC.cond_dec rfl (fun h22 => ?_) (fun h22 => ?_)
        ·
          replace hS := it_t h22 hS
          refine VC.seq ?_
          refine VC.region ?_
          refine VL.q (q_move rfl) (by decide) ?_
          obtain ⟨y28_10, ey28_10, hS⟩ := bd_s hS
          refine VL.callF (rectoref3_At_ct [115, 116, 101, 112] x6_4 5 ey28_10) rfl (by decide) ?_
          rintro q28_10_0 rfl
          try dsimp only
          refine VL.store (vc := [q28_10_0.parts.val, i64 q28_10_0.err]) (cs' := [q28_10_0.parts.val, i64 q28_10_0.err]) rfl rfl rfl gsz31 rfl rfl (Nat.le_of_ble_eq_true rfl) rfl ?_
          refine VL.to (fun _ _ h => h) ?_
          refine VC.keep [4] rfl ?_
          replace hS := up2 hS hK1
          cases hS
          exact VC.ret (finG (vs := [.agg #[q28_10_0.parts.val, i64 q28_10_0.err]]) (.inr rfl) rfl (RVs.cell gagg31 rfl rfl Rd.blk (RVs.nil)) ⟨q28_10_0.parts, q28_10_0.err⟩ rfl rfl (by (try dsimp only); exact InM.out) (fun _ _ => trivial))
        ·
          replace hS := it_f h22 hS
          refine VC.cutJ (S := Bool) (fun (x29_11 : Bool) => x29_11) (fun (x29_11 : Bool) => [(0, a_0.val), (1, a_1.val), (4, ptr b4_1 0), (5, .bool x5_3), (6, i64 x6_4), (7, ptr b7_8 0), (29, .bool x29_11)]) (fun (x29_11 : Bool) => Mo.tt) (fun (x29_11 : Bool) => Ow.star (Blk b7_8 [str z20_7.verb, i64 z20_7.commit, str z20_7.text] 111) (Ow.star (Blk b4_1 [.slice none 0 0, i64 0] 31) (Ow.emp))) hS ?_ ?_
          · -- up to where ways meet
            clear hS
            intro k12 hS
            refine VC.region ?_
            refine VL.q (q_field gfa111_1 rfl) (by decide) ?_
            refine VL.q (q_fe gone3 rfl rfl) (by decide) ?_
            refine VL.q (q_lss rfl rfl) (by decide) ?_
            refine VL.q (q_move rfl) (by decide) ?_
            refine VL.split_dec 33 rfl (fun h33 => ?_) (fun h33 => ?_)
            ·
              replace hS := it_t h33 hS
              refine VL.gn rfl rfl rfl (by decide) ?_
              refine VL.gn rfl rfl rfl (by decide) ?_
              refine VL.gn rfl rfl rfl (by decide) ?_
              refine VL.gn rfl rfl rfl (by decide) ?_
              refine VL.gn rfl rfl rfl (by decide) ?_
              refine VL.q (q_pick_t rfl rfl) (by decide) ?_
              refine VL.q (q_move rfl) (by decide) ?_
              refine VL.gn rfl rfl rfl (by decide) ?_
              refine VL.gn rfl rfl rfl (by decide) ?_
              refine VL.gn rfl rfl rfl (by decide) ?_
              refine VL.gn rfl rfl rfl (by decide) ?_
              refine VL.gn rfl rfl rfl (by decide) ?_
              refine VL.gn rfl rfl rfl (by decide) ?_
              refine VL.gn rfl rfl rfl (by decide) ?_
              refine VL.gn rfl rfl rfl (by decide) ?_
              refine VL.q (q_pick_t rfl rfl) (by decide) ?_
              refine VL.q (q_assign rfl) (by decide) ?_
              refine VL.mt true [0, 1, 4, 5, 6, 7, 29] (fun _ _ h => h) hS rfl
            ·
              replace hS := it_f h33 hS
              refine VL.gy rfl rfl (q_field gfa111_1 rfl) (by decide) ?_
              refine VL.gy rfl rfl (q_fe gone3 rfl rfl) (by decide) ?_
              refine VL.gy rfl rfl (q_move rfl) (by decide) ?_
              refine VL.gy rfl rfl (q_lnm Sv.l (s := a_1) Tryz.underlying37 rfl) (by decide) ?_
              refine VL.gy rfl rfl (q_gtr rfl rfl) (by decide) ?_
              refine VL.q (q_pick_f rfl rfl) (by decide) ?_
              refine VL.q (q_move rfl) (by decide) ?_
              refine VL.split_dec 40 rfl (fun h40 => ?_) (fun h40 => ?_)
              ·
                replace hS := it_t h40 hS
                refine VL.gn rfl rfl rfl (by decide) ?_
                refine VL.gn rfl rfl rfl (by decide) ?_
                refine VL.gn rfl rfl rfl (by decide) ?_
                refine VL.gn rfl rfl rfl (by decide) ?_
                refine VL.gn rfl rfl rfl (by decide) ?_
                refine VL.gn rfl rfl rfl (by decide) ?_
                refine VL.gn rfl rfl rfl (by decide) ?_
                refine VL.gn rfl rfl rfl (by decide) ?_
                refine VL.q (q_pick_t rfl rfl) (by decide) ?_
                refine VL.q (q_assign rfl) (by decide) ?_
                refine VL.mt true [0, 1, 4, 5, 6, 7, 29] (fun _ _ h => h) hS rfl
              ·
                replace hS := it_f h40 hS
                refine VL.gy rfl rfl (q_move rfl) (by decide) ?_
                refine VL.gy rfl rfl (q_field gfa111_1 rfl) (by decide) ?_
                refine VL.gy rfl rfl (q_fe gone3 rfl rfl) (by decide) ?_
                obtain ⟨b44, hS⟩ := gd_s hS
                refine VL.gy rfl rfl (q_sub rfl rfl b44) (by decide) ?_
                obtain ⟨z45_13, nz45_13, hz45_13, hS⟩ := atm_s hS
                refine VL.deep z45_13.ok hz45_13 (fun _ q => q) ?_
                refine VL.gy rfl rfl (q_ixm (s := a_1) Tryz.underlying37 gsz53 rfl rfl nz45_13 (lt_of_get nz45_13 hz45_13)) (by decide) ?_
                refine VL.gy rfl rfl (q_el (s := a_1) gone53 rfl hz45_13 rfl) (by decide) ?_
                refine VL.gy rfl rfl (q_ln (s := z45_13) Tryz.underlying53 rfl) (by decide) ?_
                refine VL.gy rfl rfl (q_gtr rfl rfl) (by decide) ?_
                refine VL.q (q_pick_f rfl rfl) (by decide) ?_
                refine VL.q (q_assign rfl) (by decide) ?_
                refine VL.mt (decide (1 < (z45_13.l.length : Int))) [0, 1, 4, 5, 6, 7, 29] (fun _ _ h => h) hS rfl
          · -- from there
            clear hS
            rintro x29_11 hS
            show VC _ _ _ _ _ [(0, a_0.val), (1, a_1.val), (4, ptr b4_1 0), (5, .bool x5_3), (6, i64 x6_4), (7, ptr b7_8 0), (29, .bool x29_11)] (Mo.and Mo.tt _) (Ow.star (Blk b7_8 [str z20_7.verb, i64 z20_7.commit, str z20_7.text] 111) (Ow.star (Blk b4_1 [.slice none 0 0, i64 0] 31) (Ow.emp)))
            refine VC.cond rfl (fun h29 => ?_) (fun h29 => ?_)
            ·
              replace hS := it_t h29 hS
              refine VC.seq ?_
              refine VC.region ?_
              refine VL.q (q_move rfl) (by decide) ?_
              obtain ⟨y51_14, ey51_14, hS⟩ := bd_s hS
              refine VL.callF (rectoref3_At_ct [115, 116, 101, 112] x6_4 1 ey51_14) rfl (by decide) ?_
              rintro q51_14_0 rfl
              try dsimp only
              refine VL.store (vc := [q51_14_0.parts.val, i64 q51_14_0.err]) (cs' := [q51_14_0.parts.val, i64 q51_14_0.err]) rfl rfl rfl gsz31 rfl rfl (Nat.le_of_ble_eq_true rfl) rfl ?_
              refine VL.to (fun _ _ h => h) ?_
              replace hS := up2 hS hK1
              cases hS
              exact VC.ret (finG (vs := [.agg #[q51_14_0.parts.val, i64 q51_14_0.err]]) (.inr rfl) rfl (RVs.cell gagg31 rfl rfl Rd.blk (RVs.nil)) ⟨q51_14_0.parts, q51_14_0.err⟩ rfl rfl (by (try dsimp only); exact InM.out) (fun _ _ => trivial))
            ·
              replace hS := it_b h29 hS
              refine VC.cutJ (S := Bool) (fun (x52_15 : Bool) => x52_15) (fun (x52_15 : Bool) => [(0, a_0.val), (1, a_1.val), (4, ptr b4_1 0), (5, .bool x5_3), (6, i64 x6_4), (7, ptr b7_8 0), (52, .bool x52_15)]) (fun (x52_15 : Bool) => Mo.tt) (fun (x52_15 : Bool) => Ow.star (Blk b7_8 [str z20_7.verb, i64 z20_7.commit, str z20_7.text] 111) (Ow.star (Blk b4_1 [.slice none 0 0, i64 0] 31) (Ow.emp))) hS ?_ ?_
              · -- up to where ways meet
                clear hS
                intro k16 hS
                refine VC.region ?_
                refine VL.q (q_move rfl) (by decide) ?_
                refine VL.q (q_move rfl) (by decide) ?_
                refine VL.split 54 rfl (fun h54 => ?_) (fun h54 => ?_)
                ·
                  replace hS := it_t h54 hS
                  refine VL.gy rfl rfl (q_field gfa111_0 rfl) (by decide) ?_
                  refine VL.gy rfl rfl (q_fe gone9 rfl rfl) (by decide) ?_
                  refine VL.gy rfl rfl (q_seq rfl rfl) (by decide) ?_
                  refine VL.gy rfl rfl (q_move rfl) (by decide) ?_
                  refine VL.split_dec 58 rfl (fun h58 => ?_) (fun h58 => ?_)
                  ·
                    replace hS := it_t h58 hS
                    refine VL.gn rfl rfl rfl (by decide) ?_
                    refine VL.gn rfl rfl rfl (by decide) ?_
                    refine VL.gn rfl rfl rfl (by decide) ?_
                    refine VL.gy rfl rfl (q_pick_t rfl rfl) (by decide) ?_
                    refine VL.q (q_pick_t rfl rfl) (by decide) ?_
                    refine VL.q (q_assign rfl) (by decide) ?_
                    refine VL.mt true [0, 1, 4, 5, 6, 7, 52] (fun _ _ h => h) hS rfl
                  ·
                    replace hS := it_f h58 hS
                    refine VL.gy rfl rfl (q_field gfa111_0 rfl) (by decide) ?_
                    refine VL.gy rfl rfl (q_fe gone9 rfl rfl) (by decide) ?_
                    refine VL.gy rfl rfl (q_seq rfl rfl) (by decide) ?_
                    refine VL.gy rfl rfl (q_pick_f rfl rfl) (by decide) ?_
                    refine VL.q (q_pick_t rfl rfl) (by decide) ?_
                    refine VL.q (q_assign rfl) (by decide) ?_
                    refine VL.mt (decide (z20_7.verb = [102, 105, 120, 117, 112])) [0, 1, 4, 5, 6, 7, 52] (fun _ _ h => h) hS rfl
                ·
                  replace hS := it_b h54 hS
                  refine VL.gn rfl rfl rfl (by decide) ?_
                  refine VL.gn rfl rfl rfl (by decide) ?_
                  refine VL.gn rfl rfl rfl (by decide) ?_
                  refine VL.gn rfl rfl rfl (by decide) ?_
                  refine VL.gu rfl rfl (by decide) ?_
                  refine VL.gu rfl rfl (by decide) ?_
                  refine VL.gu rfl rfl (by decide) ?_
                  refine VL.gn rfl rfl rfl (by decide) ?_
                  refine VL.q (q_pick_f rfl rfl) (by decide) ?_
                  refine VL.q (q_assign rfl) (by decide) ?_
                  refine VL.mt false [0, 1, 4, 5, 6, 7, 52] (fun _ _ h => h) hS rfl
              · -- from there
                clear hS
                rintro x52_15 hS
                show VC _ _ _ _ _ [(0, a_0.val), (1, a_1.val), (4, ptr b4_1 0), (5, .bool x5_3), (6, i64 x6_4), (7, ptr b7_8 0), (52, .bool x52_15)] (Mo.and Mo.tt _) (Ow.star (Blk b7_8 [str z20_7.verb, i64 z20_7.commit, str z20_7.text] 111) (Ow.star (Blk b4_1 [.slice none 0 0, i64 0] 31) (Ow.emp)))
                refine VC.cond rfl (fun h52 => ?_) (fun h52 => ?_)
                ·
                  replace hS := it_t h52 hS
                  refine VC.seq ?_
                  refine VC.region ?_
                  refine VL.q (q_move rfl) (by decide) ?_
                  obtain ⟨y65_17, ey65_17, hS⟩ := bd_s hS
                  refine VL.callF (rectoref3_At_ct [115, 116, 101, 112] x6_4 7 ey65_17) rfl (by decide) ?_
                  rintro q65_17_0 rfl
                  try dsimp only
                  refine VL.store (vc := [q65_17_0.parts.val, i64 q65_17_0.err]) (cs' := [q65_17_0.parts.val, i64 q65_17_0.err]) rfl rfl rfl gsz31 rfl rfl (Nat.le_of_ble_eq_true rfl) rfl ?_
                  refine VL.to (fun _ _ h => h) ?_
                  replace hS := up2 hS hK1
                  cases hS
                  exact VC.ret (finG (vs := [.agg #[q65_17_0.parts.val, i64 q65_17_0.err]]) (.inr rfl) rfl (RVs.cell gagg31 rfl rfl Rd.blk (RVs.nil)) ⟨q65_17_0.parts, q65_17_0.err⟩ rfl rfl (by (try dsimp only); exact InM.out) (fun _ _ => trivial))
                ·
                  replace hS := it_b h52 hS
                  refine VC.skip_to (fun _ _ h => h) ?_
                  refine VC.region ?_
                  refine VL.q (q_move rfl) (by decide) ?_
                  refine VL.q (q_move rfl) (by decide) ?_
                  refine VL.split 67 rfl (fun h67 => ?_) (fun h67 => ?_)
                  ·
                    replace hS := it_t h67 hS
                    refine VL.gy rfl rfl (q_field gfa111_0 rfl) (by decide) ?_
                    refine VL.gy rfl rfl (q_fe gone9 rfl rfl) (by decide) ?_
                    refine VL.gy rfl rfl (q_seq rfl rfl) (by decide) ?_
                    refine VL.q (q_pick_t rfl rfl) (by decide) ?_
                    refine VL.q (q_assign rfl) (by decide) ?_
                    refine VL.mt (decide (z20_7.verb = [100, 114, 111, 112])) [0, 1, 4, 5, 6] (fun _ _ h => h) hS rfl
                  ·
                    replace hS := it_b h67 hS
                    refine VL.gn rfl rfl rfl (by decide) ?_
                    refine VL.gn rfl rfl rfl (by decide) ?_
                    refine VL.gn rfl rfl rfl (by decide) ?_
                    refine VL.q (q_pick_f rfl rfl) (by decide) ?_
                    refine VL.q (q_assign rfl) (by decide) ?_
                    refine VL.mt false [0, 1, 4, 5, 6] (fun _ _ h => h) hS rfl
      · -- from there
        clear hS
        rintro x5_5 hS
        show VC _ _ _ _ _ [(0, a_0.val), (1, a_1.val), (4, ptr b4_1 0), (5, .bool x5_5), (6, i64 x6_4)] (Mo.and Mo.tt _) (Ow.star (Blk b4_1 [.slice none 0 0, i64 0] 31) (Ow.emp))
        refine VC.region ?_
        refine VL.q (q_move rfl) (by decide) ?_
        obtain ⟨b17, hS⟩ := gd_s hS
        refine VL.q (q_add rfl rfl b17) (by decide) ?_
        refine VL.q (q_assign rfl) (by decide) ?_
        refine VL.rnd (x5_5, (x6_4 + 1)) [0, 1, 4, 5, 6] (fun _ _ h => h) (go2 hS hK1) rfl
    ·
      replace hS := it_f h15 hS
      replace hS := up2 hS hK1
      refine VC.exit_to (fun _ _ h => h) ?_
      refine VC.seq ?_
      refine VC.region ?_
      refine VL.q (q_build (vs := []) (cs := #[.slice none 0 0, i64 0]) rfl (by kernel_rfl)) (by decide) ?_
      refine VL.store (vc := [.slice none 0 0, i64 0]) (cs' := [.slice none 0 0, i64 0]) rfl rfl rfl gsz31 rfl rfl (Nat.le_of_ble_eq_true rfl) rfl ?_
      refine VL.to (fun _ _ h => h) ?_
      cases hS
      exact VC.ret (finG (vs := [.agg #[.slice none 0 0, i64 0]]) (.inr rfl) rfl (RVs.cell gagg31 rfl rfl Rd.blk (RVs.nil)) ⟨⟨none, 0, []⟩, 0⟩ rfl rfl (by (try dsimp only); exact InM.out) (fun _ _ => trivial))

set_option maxHeartbeats 4000000 in
set_option maxRecDepth 100000 in
theorem rectoref17_Text_ct (l_0 : Sv Rectoref17Step) {r : Str} (hS : Sh.rectoref17_Text l_0.l = some r) :
    Ct Tryz.prog 21 [l_0.val] l_0.ok (Ow.emp) (X := Unit) (fun _ => str r) (fun _ => True) (fun _ => Mo.tt) (fun _ => Ow.emp) := by
  refine Ct.of Tryz.func21 rfl (by kernel_rfl) Tryz.ntmps21 (by simp) fun c => ?_
  unfold Sh.rectoref17_Text at hS
  refine VC.seq ?_
  refine VC.region ?_
  refine VL.q (q_assign rfl) (by decide) ?_
  refine VL.to (fun _ _ h => h) ?_
  refine VC.seq ?_
  refine VC.region ?_
  refine VL.q (q_assign rfl) (by decide) ?_
  refine VL.to (fun _ _ h => h) ?_
  refine VC.seq ?_
  refine VC.seq ?_
  refine VC.region ?_
  refine VL.q (q_assign rfl) (by decide) ?_
  refine VL.to (fun _ _ h => h) ?_
  refine VC.block ?_
  refine VC.iter (S := Str × Int) (fun sg => (sg.1, sg.2)) (fun sg => [(0, l_0.val), (3, str sg.1), (4, i64 sg.2)]) (fun sg => Mo.tt) (fun sg => Ow.emp) ([], 0) [0, 3, 4] hS rfl ?_
  clear hS
  rintro ⟨s3_1, i4_2⟩ m1 y1 hS hK1
  show VC _ _ _ _ _ [(0, l_0.val), (3, str s3_1), (4, i64 i4_2)] (Mo.and Mo.tt _) (Ow.emp)
  refine VC.seq ?_
  refine VC.seq ?_
  refine VC.region ?_
  refine VL.q (q_move rfl) (by decide) ?_
  refine VL.q (q_move rfl) (by decide) ?_
  refine VL.q (q_ln (s := l_0) Tryz.underlying28 rfl) (by decide) ?_
  refine VL.q (q_lss rfl rfl) (by decide) ?_
  refine VL.to (fun _ _ h => h) ?_
  refine VC.cond_dec rfl (fun h8 => ?_) (fun h8 => ?_)
  ·
    replace hS := it_t h8 hS
    refine VC.skip_to (fun _ _ h => h) ?_
    refine VC.seq ?_
    refine VC.block ?_
    refine VC.seq ?_
    refine VC.draw ((List.range 16).map fun k => (k, true)) mixed (by kernel_rfl) (by kernel_rfl) (by kernel_rfl) ?_
    refine VD.q rfl (q_move rfl) (by decide) ?_
    refine VD.q rfl (q_move rfl) (by decide) ?_
    refine VD.q rfl (q_move rfl) (by decide) ?_
    obtain ⟨z14_3, nz14_3, hz14_3, hS⟩ := at_s hS
    refine VD.q rfl (q_ixm (s := l_0) Tryz.underlying28 gsz111 rfl rfl nz14_3 (lt_of_get nz14_3 hz14_3)) (by decide) ?_
    refine VD.q rfl (q_field gfa111_0 rfl) (by decide) ?_
    refine VD.q rfl (q_elf (s := l_0) gone9 rfl hz14_3 rfl) (by decide) ?_
    obtain ⟨b17, hS⟩ := gd_s hS
    obtain ⟨y17_4, ey17_4, hS⟩ := lt_s hS
    refine VD.q rfl (q_catE rfl rfl b17 ey17_4) (by decide) ?_
    obtain ⟨b18, hS⟩ := gd_s hS
    obtain ⟨y18_5, ey18_5, hS⟩ := lt_s hS
    refine VD.q rfl (q_catE rfl rfl b18 ey18_5) (by decide) ?_
    refine VD.q rfl (q_move rfl) (by decide) ?_
    refine VD.q rfl (q_move rfl) (by decide) ?_
    obtain ⟨z21_6, nz21_6, hz21_6, hS⟩ := at_s hS
    refine VD.q rfl (q_ixm (s := l_0) Tryz.underlying28 gsz111 rfl rfl nz21_6 (lt_of_get nz21_6 hz21_6)) (by decide) ?_
    refine VD.q rfl (q_field gfa111_1 rfl) (by decide) ?_
    refine VD.q rfl (q_elf (s := l_0) gone3 rfl hz21_6 rfl) (by decide) ?_
    obtain ⟨y24_7, ey24_7, hS⟩ := bd_s hS
    refine VD.q rfl (q_call (rectoref3_Decimal_ct z21_6.commit ey24_7) rfl (fun _ _ => rfl)) (by decide) ?_
    obtain ⟨b25, hS⟩ := gd_s hS
    obtain ⟨y25_8, ey25_8, hS⟩ := lt_s hS
    refine VD.q rfl (q_catE rfl rfl b25 ey25_8) (by decide) ?_
    refine VD.q rfl (q_assign rfl) (by decide) ?_
    refine VD.to (fun _ _ h => h) ?_
    refine VC.keep [0, 3, 4] rfl ?_
    refine VC.cutJ (S := Str) (fun (s3_9 : Str) => s3_9) (fun (s3_9 : Str) => [(0, l_0.val), (3, str s3_9), (4, i64 i4_2)]) (fun (s3_9 : Str) => Mo.tt) (fun (s3_9 : Str) => Ow.emp) hS ?_ ?_
    · -- up to where ways meet
      clear hS
      intro k10 hS
      refine VC.seq ?_
      refine VC.region ?_
      refine VL.q (q_move rfl) (by decide) ?_
      refine VL.q (q_move rfl) (by decide) ?_
      obtain ⟨z28_11, nz28_11, hz28_11, hS⟩ := at_s hS
      refine VL.q (q_ixm (s := l_0) Tryz.underlying28 gsz111 rfl rfl nz28_11 (lt_of_get nz28_11 hz28_11)) (by decide) ?_
      refine VL.q (q_field gfa111_0 rfl) (by decide) ?_
      refine VL.q (q_elf (s := l_0) gone9 rfl hz28_11 rfl) (by decide) ?_
      refine VL.q (q_seq rfl rfl) (by decide) ?_
      refine VL.to (fun _ _ h => h) ?_
      refine VC.cond_dec rfl (fun h31 => ?_) (fun h31 => ?_)
      ·
        replace hS := it_t h31 hS
        refine VC.region ?_
        refine VL.q (q_move rfl) (by decide) ?_
        obtain ⟨b33, hS⟩ := gd_s hS
        obtain ⟨y33_12, ey33_12, hS⟩ := lt_s hS
        refine VL.q (q_catE rfl rfl b33 ey33_12) (by decide) ?_
        refine VL.q (q_move rfl) (by decide) ?_
        refine VL.q (q_move rfl) (by decide) ?_
        obtain ⟨z36_13, nz36_13, hz36_13, hS⟩ := at_s hS
        refine VL.q (q_ixm (s := l_0) Tryz.underlying28 gsz111 rfl rfl nz36_13 (lt_of_get nz36_13 hz36_13)) (by decide) ?_
        refine VL.q (q_field gfa111_2 rfl) (by decide) ?_
        refine VL.q (q_elf (s := l_0) gone9 rfl hz36_13 rfl) (by decide) ?_
        obtain ⟨b39, hS⟩ := gd_s hS
        obtain ⟨y39_14, ey39_14, hS⟩ := lt_s hS
        refine VL.q (q_catE rfl rfl b39 ey39_14) (by decide) ?_
        refine VL.q (q_assign rfl) (by decide) ?_
        refine VL.mt y39_14 [0, 3, 4] (fun _ _ h => h) hS rfl
      ·
        replace hS := it_f h31 hS
        refine VC.skip_mt y25_8 [0, 3, 4] (fun _ _ h => h) hS rfl
    · -- from there
      clear hS
      rintro s3_9 hS
      show VC _ _ _ _ _ [(0, l_0.val), (3, str s3_9), (4, i64 i4_2)] (Mo.and Mo.tt _) (Ow.emp)
      refine VC.region ?_
      refine VL.q (q_move rfl) (by decide) ?_
      obtain ⟨b41, hS⟩ := gd_s hS
      obtain ⟨y41_15, ey41_15, hS⟩ := lt_s hS
      refine VL.q (q_catE rfl rfl b41 ey41_15) (by decide) ?_
      refine VL.q (q_assign rfl) (by decide) ?_
      refine VL.to (fun _ _ h => h) ?_
      refine VC.region ?_
      refine VL.q (q_move rfl) (by decide) ?_
      obtain ⟨b10, hS⟩ := gd_s hS
      refine VL.q (q_add rfl rfl b10) (by decide) ?_
      refine VL.q (q_assign rfl) (by decide) ?_
      refine VL.rnd (y41_15, (i4_2 + 1)) [0, 3, 4] (fun _ _ h => h) (go2 hS hK1) rfl
  ·
    replace hS := it_f h8 hS
    replace hS := up2 hS hK1
    refine VC.exit_to (fun _ _ h => h) ?_
    refine VC.seq ?_
    refine VC.region ?_
    refine VL.q (q_move rfl) (by decide) ?_
    refine VL.q (q_assign rfl) (by decide) ?_
    refine VL.to (fun _ _ h => h) ?_
    cases hS
    exact VC.ret (fin1 (.inr rfl) rfl rfl () rfl trivial (fun _ _ => trivial) (fun _ _ => trivial))

set_option maxHeartbeats 4000000 in
set_option maxRecDepth 100000 in
theorem rectolaw21_TodoBack_ct (a_0 : Sv TodoStep) (a_1 : Sv (Sv Int)) {r : Bool} (hS : Sh.rectolaw21_TodoBack a_0.l (a_1.l.map Sv.l) = some r) :
    Ct Tryz.prog 4 [a_0.val, a_1.val] (a_0.ok.and (a_1.ok.and Gl)) (Ow.emp) (X := Unit) (fun _ => .bool r) (fun _ => True) (fun _ => Mo.tt) (fun _ => Ow.emp) := by
  refine Ct.of Tryz.func4 rfl (by kernel_rfl) Tryz.ntmps4 (by simp) fun c => ?_
  unfold Sh.rectolaw21_TodoBack at hS
  refine VC.seq ?_
  refine VC.region ?_
  refine VL.q (q_assign rfl) (by decide) ?_
  refine VL.to (fun _ _ h => h) ?_
  refine VC.seq ?_
  refine VC.seq ?_
  refine VC.region ?_
  obtain ⟨y11_1, ey11_1, hS⟩ := bd_s hS
  refine VL.q (q_call (rectolaw21_known_ct ey11_1) rfl (fun _ _ => rfl)) (by decide) ?_
  refine VL.q (q_not rfl) (by decide) ?_
  refine VL.to (fun _ _ h => h) ?_
  refine VC.cond rfl (fun h12 => ?_) (fun h12 => ?_)
  ·
    replace hS := it_t h12 hS
    refine VC.seq ?_
    refine VC.region ?_
    refine VL.q (q_assign rfl) (by decide) ?_
    refine VL.to (fun _ _ h => h) ?_
    cases hS
    exact VC.ret (fin1 (.inr rfl) rfl rfl () rfl trivial (fun _ _ => trivial) (fun _ _ => trivial))
  ·
    replace hS := it_b h12 hS
    refine VC.skip_to (fun _ _ h => h) ?_
    refine VC.seq ?_
    refine VC.cutJ (S := Bool) (fun (x25_2 : Bool) => x25_2) (fun (x25_2 : Bool) => [(0, a_0.val), (1, a_1.val), (25, .bool x25_2)]) (fun (x25_2 : Bool) => Mo.tt) (fun (x25_2 : Bool) => Ow.emp) hS ?_ ?_
    · -- up to where ways meet
      clear hS
      intro k3 hS
      refine VC.region ?_
      refine VL.q (q_move rfl) (by decide) ?_
      refine VL.q (q_ln (s := a_0) Tryz.underlying23 rfl) (by decide) ?_
      refine VL.q (q_gtr rfl rfl) (by decide) ?_
      refine VL.q (q_move rfl) (by decide) ?_
      refine VL.split_dec 16 rfl (fun h16 => ?_) (fun h16 => ?_)
      ·
        replace hS := it_t h16 hS
        refine VL.gn rfl rfl rfl (by decide) ?_
        refine VL.gn rfl rfl rfl (by decide) ?_
        refine VL.gn rfl rfl rfl (by decide) ?_
        refine VL.q (q_pick_t rfl rfl) (by decide) ?_
        refine VL.q (q_move rfl) (by decide) ?_
        refine VL.gn rfl rfl rfl (by decide) ?_
        refine VL.gn rfl rfl rfl (by decide) ?_
        refine VL.gn rfl rfl rfl (by decide) ?_
        refine VL.q (q_pick_t rfl rfl) (by decide) ?_
        refine VL.mt true [0, 1, 25] (fun _ _ h => h) hS rfl
      ·
        replace hS := it_f h16 hS
        refine VL.gy rfl rfl (q_move rfl) (by decide) ?_
        refine VL.gy rfl rfl (q_lnm Sv.l (s := a_1) Tryz.underlying38 rfl) (by decide) ?_
        refine VL.gy rfl rfl (q_gtr rfl rfl) (by decide) ?_
        refine VL.q (q_pick_f rfl rfl) (by decide) ?_
        refine VL.q (q_move rfl) (by decide) ?_
        refine VL.split_dec 21 rfl (fun h21 => ?_) (fun h21 => ?_)
        ·
          replace hS := it_t h21 hS
          refine VL.gn rfl rfl rfl (by decide) ?_
          refine VL.gn rfl rfl rfl (by decide) ?_
          refine VL.gn rfl rfl rfl (by decide) ?_
          refine VL.q (q_pick_t rfl rfl) (by decide) ?_
          refine VL.mt true [0, 1, 25] (fun _ _ h => h) hS rfl
        ·
          replace hS := it_f h21 hS
          refine VL.gy rfl rfl (q_move rfl) (by decide) ?_
          obtain ⟨y23_4, ey23_4, hS⟩ := bd_s hS
          refine VL.gy rfl rfl (q_call (rectoref17_Check_ct a_1 ey23_4) rfl (fun _ _ => rfl)) (by decide) ?_
          refine VL.gy rfl rfl (q_neq rfl rfl) (by decide) ?_
          refine VL.q (q_pick_f rfl rfl) (by decide) ?_
          refine VL.mt (!decide (y23_4 = 0)) [0, 1, 25] (fun _ _ h => h) hS rfl
    · -- from there
      clear hS
      rintro x25_2 hS
      show VC _ _ _ _ _ [(0, a_0.val), (1, a_1.val), (25, .bool x25_2)] (Mo.and Mo.tt _) (Ow.emp)
      refine VC.cond rfl (fun h25 => ?_) (fun h25 => ?_)
      ·
        replace hS := it_t h25 hS
        refine VC.seq ?_
        refine VC.region ?_
        refine VL.q (q_assign rfl) (by decide) ?_
        refine VL.to (fun _ _ h => h) ?_
        cases hS
        exact VC.ret (fin1 (.inr rfl) rfl rfl () rfl trivial (fun _ _ => trivial) (fun _ _ => trivial))
      ·
        replace hS := it_b h25 hS
        refine VC.skip_to (fun _ _ h => h) ?_
        refine VC.seq ?_
        refine VC.region ?_
        refine VL.q (q_move rfl) (by decide) ?_
        refine VL.q (q_ln (s := a_0) Tryz.underlying23 rfl) (by decide) ?_
        refine VL.q (q_leq rfl rfl) (by decide) ?_
        refine VL.q (q_assign rfl) (by decide) ?_
        refine VL.to (fun _ _ h => h) ?_
        refine VC.seq ?_
        refine VC.seq ?_
        refine VC.region ?_
        refine VL.q (q_assign rfl) (by decide) ?_
        refine VL.to (fun _ _ h => h) ?_
        refine VC.block ?_
        refine VC.iter (S := Bool × Int) (fun sg => (sg.1, sg.2)) (fun sg => [(0, a_0.val), (1, a_1.val), (5, .bool sg.1), (6, i64 sg.2)]) (fun sg => Mo.tt) (fun sg => Ow.emp) ((decide ((a_0.l.length : Int) ≤ 32)), 0) [0, 1, 5, 6] hS rfl ?_
        clear hS
        rintro ⟨x5_5, x6_6⟩ m1 y1 hS hK1
        show VC _ _ _ _ _ [(0, a_0.val), (1, a_1.val), (5, .bool x5_5), (6, i64 x6_6)] (Mo.and Mo.tt _) (Ow.emp)
        refine VC.seq ?_
        refine VC.seq ?_
        refine VC.region ?_
        refine VL.q (q_move rfl) (by decide) ?_
        refine VL.q (q_move rfl) (by decide) ?_
        refine VL.q (q_ln (s := a_0) Tryz.underlying23 rfl) (by decide) ?_
        refine VL.q (q_lss rfl rfl) (by decide) ?_
        refine VL.to (fun _ _ h => h) ?_
        refine VC.cond_dec rfl (fun h32 => ?_) (fun h32 => ?_)
        ·
          replace hS := it_t h32 hS
          refine VC.skip_to (fun _ _ h => h) ?_
          refine VC.cutJ (S := Bool) (fun (x5_7 : Bool) => x5_7) (fun (x5_7 : Bool) => [(0, a_0.val), (1, a_1.val), (5, .bool x5_7), (6, i64 x6_6)]) (fun (x5_7 : Bool) => Mo.tt) (fun (x5_7 : Bool) => Ow.emp) hS ?_ ?_
          · -- up to where ways meet
            clear hS
            intro k8 hS
            refine VC.block ?_
            refine VC.seq ?_
            refine VC.region ?_
            refine VL.q (q_move rfl) (by decide) ?_
            refine VL.q (q_move rfl) (by decide) ?_
            obtain ⟨z37_9, nz37_9, hz37_9, hS⟩ := at_s hS
            refine VL.q (q_ixm (s := a_0) Tryz.underlying23 gsz41 rfl rfl nz37_9 (lt_of_get nz37_9 hz37_9)) (by decide) ?_
            refine VL.q (q_els (s := a_0) gagg41 rfl rfl hz37_9) (by decide) ?_
            refine VL.alloc (cs := [str [], i64 0, str []]) (by kernel_rfl) (by decide) fun b7_10 => ?_
            refine VL.store (vc := [str z37_9.verb, i64 z37_9.commit, str z37_9.text]) (cs' := [str z37_9.verb, i64 z37_9.commit, str z37_9.text]) rfl rfl rfl gsz41 rfl rfl (Nat.le_of_ble_eq_true rfl) rfl ?_
            refine VL.to (fun _ _ h => h) ?_
            refine VC.keep [0, 1, 5, 6, 7] rfl ?_
            refine VC.seq ?_
            refine VC.cutJ (S := Bool) (fun (x48_11 : Bool) => x48_11) (fun (x48_11 : Bool) => [(0, a_0.val), (1, a_1.val), (5, .bool x5_5), (6, i64 x6_6), (7, ptr b7_10 0), (48, .bool x48_11)]) (fun (x48_11 : Bool) => Mo.tt) (fun (x48_11 : Bool) => Ow.star (Blk b7_10 [str z37_9.verb, i64 z37_9.commit, str z37_9.text] 41) (Ow.emp)) hS ?_ ?_
            · -- up to where ways meet
              clear hS
              intro k12 hS
              refine VC.region ?_
              refine VL.q (q_field gfa41_0 rfl) (by decide) ?_
              refine VL.q (q_fe gone9 rfl rfl) (by decide) ?_
              refine VL.q (q_slen Tryz.underlying9 rfl) (by decide) ?_
              refine VL.q (q_gtr rfl rfl) (by decide) ?_
              refine VL.q (q_move rfl) (by decide) ?_
              refine VL.split_dec 43 rfl (fun h43 => ?_) (fun h43 => ?_)
              ·
                replace hS := it_t h43 hS
                refine VL.gn rfl rfl rfl (by decide) ?_
                refine VL.gn rfl rfl rfl (by decide) ?_
                refine VL.gn rfl rfl rfl (by decide) ?_
                refine VL.gn rfl rfl rfl (by decide) ?_
                refine VL.q (q_pick_t rfl rfl) (by decide) ?_
                refine VL.mt true [0, 1, 5, 6, 7, 48] (fun _ _ h => h) hS rfl
              ·
                replace hS := it_f h43 hS
                refine VL.gy rfl rfl (q_field gfa41_2 rfl) (by decide) ?_
                refine VL.gy rfl rfl (q_fe gone9 rfl rfl) (by decide) ?_
                refine VL.gy rfl rfl (q_slen Tryz.underlying9 rfl) (by decide) ?_
                refine VL.gy rfl rfl (q_gtr rfl rfl) (by decide) ?_
                refine VL.q (q_pick_f rfl rfl) (by decide) ?_
                refine VL.mt (decide (300 < (z37_9.text.length : Int))) [0, 1, 5, 6, 7, 48] (fun _ _ h => h) hS rfl
            · -- from there
              clear hS
              rintro x48_11 hS
              show VC _ _ _ _ _ [(0, a_0.val), (1, a_1.val), (5, .bool x5_5), (6, i64 x6_6), (7, ptr b7_10 0), (48, .bool x48_11)] (Mo.and Mo.tt _) (Ow.star (Blk b7_10 [str z37_9.verb, i64 z37_9.commit, str z37_9.text] 41) (Ow.emp))
              refine VC.cond rfl (fun h48 => ?_) (fun h48 => ?_)
              ·
                replace hS := it_t h48 hS
                refine VC.seq ?_
                refine VC.region ?_
                refine VL.q (q_assign rfl) (by decide) ?_
                refine VL.to (fun _ _ h => h) ?_
                replace hS := up2 hS hK1
                cases hS
                exact VC.ret (fin1 (.inr rfl) rfl rfl () rfl trivial (fun _ _ => trivial) (fun _ _ => trivial))
              ·
                replace hS := it_b h48 hS
                refine VC.skip_to (fun _ _ h => h) ?_
                refine VC.cutJ (S := Bool) (fun (x5_13 : Bool) => x5_13) (fun (x5_13 : Bool) => [(0, a_0.val), (1, a_1.val), (5, .bool x5_13), (6, i64 x6_6), (7, ptr b7_10 0)]) (fun (x5_13 : Bool) => Mo.tt) (fun (x5_13 : Bool) => Ow.star (Blk b7_10 [str z37_9.verb, i64 z37_9.commit, str z37_9.text] 41) (Ow.emp)) hS ?_ ?_
                · -- up to where ways meet
                  clear hS
                  intro k14 hS
                  refine VC.region ?_
                  refine VL.q (q_move rfl) (by decide) ?_
                  refine VL.q (q_move rfl) (by decide) ?_
                  refine VL.split 50 rfl (fun h50 => ?_) (fun h50 => ?_)
                  ·
                    replace hS := it_t h50 hS
                    refine VL.gy rfl rfl (q_field gfa41_0 rfl) (by decide) ?_
                    refine VL.gy rfl rfl (q_fe gone9 rfl rfl) (by decide) ?_
                    obtain ⟨y53_15, ey53_15, hS⟩ := bd_s hS
                    refine VL.gy rfl rfl (q_call (rectoref17_Verb_ct z37_9.verb ey53_15) rfl (fun _ _ => rfl)) (by decide) ?_
                    refine VL.gy rfl rfl (q_geq rfl rfl) (by decide) ?_
                    refine VL.q (q_pick_t rfl rfl) (by decide) ?_
                    refine VL.q (q_move rfl) (by decide) ?_
                    refine VL.split_dec 56 rfl (fun h56 => ?_) (fun h56 => ?_)
                    ·
                      replace hS := it_t h56 hS
                      refine VL.gy rfl rfl (q_field gfa41_1 rfl) (by decide) ?_
                      refine VL.gy rfl rfl (q_fe gone3 rfl rfl) (by decide) ?_
                      refine VL.gy rfl rfl (q_geq rfl rfl) (by decide) ?_
                      refine VL.q (q_pick_t rfl rfl) (by decide) ?_
                      refine VL.q (q_move rfl) (by decide) ?_
                      refine VL.split_dec 61 rfl (fun h61 => ?_) (fun h61 => ?_)
                      ·
                        replace hS := it_t h61 hS
                        refine VL.gy rfl rfl (q_field gfa41_1 rfl) (by decide) ?_
                        refine VL.gy rfl rfl (q_fe gone3 rfl rfl) (by decide) ?_
                        refine VL.gy rfl rfl (q_leq rfl rfl) (by decide) ?_
                        refine VL.q (q_pick_t rfl rfl) (by decide) ?_
                        refine VL.q (q_assign rfl) (by decide) ?_
                        refine VL.mt (decide (z37_9.commit ≤ 1000000)) [0, 1, 5, 6, 7] (fun _ _ h => h) hS rfl
                      ·
                        replace hS := it_f h61 hS
                        refine VL.gn rfl rfl rfl (by decide) ?_
                        refine VL.gn rfl rfl rfl (by decide) ?_
                        refine VL.gn rfl rfl rfl (by decide) ?_
                        refine VL.q (q_pick_f rfl rfl) (by decide) ?_
                        refine VL.q (q_assign rfl) (by decide) ?_
                        refine VL.mt false [0, 1, 5, 6, 7] (fun _ _ h => h) hS rfl
                    ·
                      replace hS := it_f h56 hS
                      refine VL.gn rfl rfl rfl (by decide) ?_
                      refine VL.gn rfl rfl rfl (by decide) ?_
                      refine VL.gn rfl rfl rfl (by decide) ?_
                      refine VL.q (q_pick_f rfl rfl) (by decide) ?_
                      refine VL.q (q_move rfl) (by decide) ?_
                      refine VL.gn rfl rfl rfl (by decide) ?_
                      refine VL.gn rfl rfl rfl (by decide) ?_
                      refine VL.gn rfl rfl rfl (by decide) ?_
                      refine VL.q (q_pick_f rfl rfl) (by decide) ?_
                      refine VL.q (q_assign rfl) (by decide) ?_
                      refine VL.mt false [0, 1, 5, 6, 7] (fun _ _ h => h) hS rfl
                  ·
                    replace hS := it_b h50 hS
                    refine VL.gn rfl rfl rfl (by decide) ?_
                    refine VL.gn rfl rfl rfl (by decide) ?_
                    refine VL.gn rfl rfl rfl (by decide) ?_
                    refine VL.gn rfl rfl rfl (by decide) ?_
                    refine VL.q (q_pick_f rfl rfl) (by decide) ?_
                    refine VL.q (q_move rfl) (by decide) ?_
                    refine VL.gn rfl rfl rfl (by decide) ?_
                    refine VL.gn rfl rfl rfl (by decide) ?_
                    refine VL.gn rfl rfl rfl (by decide) ?_
                    refine VL.q (q_pick_f rfl rfl) (by decide) ?_
                    refine VL.q (q_move rfl) (by decide) ?_
                    refine VL.gn rfl rfl rfl (by decide) ?_
                    refine VL.gn rfl rfl rfl (by decide) ?_
                    refine VL.gn rfl rfl rfl (by decide) ?_
                    refine VL.q (q_pick_f rfl rfl) (by decide) ?_
                    refine VL.q (q_assign rfl) (by decide) ?_
                    refine VL.mt false [0, 1, 5, 6, 7] (fun _ _ h => h) hS rfl
                · -- from there
                  clear hS
                  rintro x5_13 hS
                  show VC _ _ _ _ _ [(0, a_0.val), (1, a_1.val), (5, .bool x5_13), (6, i64 x6_6), (7, ptr b7_10 0)] (Mo.and Mo.tt _) (Ow.star (Blk b7_10 [str z37_9.verb, i64 z37_9.commit, str z37_9.text] 41) (Ow.emp))
                  refine VC.seq ?_
                  refine VC.region ?_
                  refine VL.q (q_field gfa41_0 rfl) (by decide) ?_
                  refine VL.q (q_fe gone9 rfl rfl) (by decide) ?_
                  refine VL.q (q_seq rfl rfl) (by decide) ?_
                  refine VL.to (fun _ _ h => h) ?_
                  refine VC.cond_dec rfl (fun h68 => ?_) (fun h68 => ?_)
                  ·
                    replace hS := it_t h68 hS
                    refine VC.region ?_
                    refine VL.q (q_move rfl) (by decide) ?_
                    refine VL.q (q_move rfl) (by decide) ?_
                    refine VL.split 70 rfl (fun h70 => ?_) (fun h70 => ?_)
                    ·
                      replace hS := it_t h70 hS
                      refine VL.gy rfl rfl (q_field gfa41_2 rfl) (by decide) ?_
                      refine VL.gy rfl rfl (q_fe gone9 rfl rfl) (by decide) ?_
                      refine VL.gy rfl rfl (q_sne rfl rfl) (by decide) ?_
                      refine VL.q (q_pick_t rfl rfl) (by decide) ?_
                      refine VL.q (q_move rfl) (by decide) ?_
                      refine VL.split_ndec 75 rfl (fun h75 => ?_) (fun h75 => ?_)
                      ·
                        replace hS := it_f h75 hS
                        refine VL.gy rfl rfl (q_field gfa41_2 rfl) (by decide) ?_
                        refine VL.gy rfl rfl (q_fe gone9 rfl rfl) (by decide) ?_
                        refine VL.gy rfl rfl (q_slen Tryz.underlying9 rfl) (by decide) ?_
                        refine VL.gy rfl rfl (q_leq rfl rfl) (by decide) ?_
                        refine VL.q (q_pick_t rfl rfl) (by decide) ?_
                        refine VL.q (q_move rfl) (by decide) ?_
                        refine VL.split_dec 81 rfl (fun h81 => ?_) (fun h81 => ?_)
                        ·
                          replace hS := it_t h81 hS
                          refine VL.gy rfl rfl (q_field gfa41_2 rfl) (by decide) ?_
                          refine VL.gy rfl rfl (q_fe gone9 rfl rfl) (by decide) ?_
                          refine VL.guard rfl rfl ?_
                          obtain ⟨y84_16, ey84_16, hS⟩ := bd_s hS
                          refine VL.callO (rectoref17_Lines_ct z37_9.text ey84_16) rfl (by decide) ?_
                          rintro q84_16_0 rfl
                          try dsimp only
                          refine VL.gy rfl rfl (q_ln (s := q84_16_0) Tryz.underlying43 rfl) (by decide) ?_
                          refine VL.gy rfl rfl (q_eql rfl rfl) (by decide) ?_
                          refine VL.q (q_pick_t rfl rfl) (by decide) ?_
                          refine VL.q (q_assign rfl) (by decide) ?_
                          refine VL.mt (decide ((q84_16_0.l.length : Int) = 1)) [0, 1, 5, 6] (fun _ _ h => h) hS rfl
                        ·
                          replace hS := it_f h81 hS
                          refine VL.gn rfl rfl rfl (by decide) ?_
                          refine VL.gn rfl rfl rfl (by decide) ?_
                          refine VL.gn rfl rfl rfl (by decide) ?_
                          refine VL.gn rfl rfl rfl (by decide) ?_
                          refine VL.gn rfl rfl rfl (by decide) ?_
                          refine VL.q (q_pick_f rfl rfl) (by decide) ?_
                          refine VL.q (q_assign rfl) (by decide) ?_
                          refine VL.mt false [0, 1, 5, 6] (fun _ _ h => h) hS rfl
                      ·
                        replace hS := it_t h75 hS
                        refine VL.gn rfl rfl rfl (by decide) ?_
                        refine VL.gn rfl rfl rfl (by decide) ?_
                        refine VL.gn rfl rfl rfl (by decide) ?_
                        refine VL.gn rfl rfl rfl (by decide) ?_
                        refine VL.q (q_pick_f rfl rfl) (by decide) ?_
                        refine VL.q (q_move rfl) (by decide) ?_
                        refine VL.gn rfl rfl rfl (by decide) ?_
                        refine VL.gn rfl rfl rfl (by decide) ?_
                        refine VL.gn rfl rfl rfl (by decide) ?_
                        refine VL.gn rfl rfl rfl (by decide) ?_
                        refine VL.gn rfl rfl rfl (by decide) ?_
                        refine VL.q (q_pick_f rfl rfl) (by decide) ?_
                        refine VL.q (q_assign rfl) (by decide) ?_
                        refine VL.mt false [0, 1, 5, 6] (fun _ _ h => h) hS rfl
                    ·
                      replace hS := it_b h70 hS
                      refine VL.gn rfl rfl rfl (by decide) ?_
                      refine VL.gn rfl rfl rfl (by decide) ?_
                      refine VL.gn rfl rfl rfl (by decide) ?_
                      refine VL.q (q_pick_f rfl rfl) (by decide) ?_
                      refine VL.q (q_move rfl) (by decide) ?_
                      refine VL.gn rfl rfl rfl (by decide) ?_
                      refine VL.gn rfl rfl rfl (by decide) ?_
                      refine VL.gn rfl rfl rfl (by decide) ?_
                      refine VL.gn rfl rfl rfl (by decide) ?_
                      refine VL.q (q_pick_f rfl rfl) (by decide) ?_
                      refine VL.q (q_move rfl) (by decide) ?_
                      refine VL.gn rfl rfl rfl (by decide) ?_
                      refine VL.gn rfl rfl rfl (by decide) ?_
                      refine VL.gn rfl rfl rfl (by decide) ?_
                      refine VL.gn rfl rfl rfl (by decide) ?_
                      refine VL.gn rfl rfl rfl (by decide) ?_
                      refine VL.q (q_pick_f rfl rfl) (by decide) ?_
                      refine VL.q (q_assign rfl) (by decide) ?_
                      refine VL.mt false [0, 1, 5, 6] (fun _ _ h => h) hS rfl
                  ·
                    replace hS := it_f h68 hS
                    refine VC.skip_mt x5_13 [0, 1, 5, 6] (fun _ _ h => h) hS rfl
          · -- from there
            clear hS
            rintro x5_7 hS
            show VC _ _ _ _ _ [(0, a_0.val), (1, a_1.val), (5, .bool x5_7), (6, i64 x6_6)] (Mo.and Mo.tt _) (Ow.emp)
            refine VC.region ?_
            refine VL.q (q_move rfl) (by decide) ?_
            obtain ⟨b34, hS⟩ := gd_s hS
            refine VL.q (q_add rfl rfl b34) (by decide) ?_
            refine VL.q (q_assign rfl) (by decide) ?_
            refine VL.rnd (x5_7, (x6_6 + 1)) [0, 1, 5, 6] (fun _ _ h => h) (go2 hS hK1) rfl
        ·
          replace hS := it_f h32 hS
          replace hS := up2 hS hK1
          refine VC.exit_to (fun _ _ h => h) ?_
          refine VC.seq ?_
          refine VC.cutJ (S := Bool) (fun (x104_17 : Bool) => x104_17) (fun (x104_17 : Bool) => [(0, a_0.val), (5, .bool x5_5), (104, .bool x104_17)]) (fun (x104_17 : Bool) => Mo.tt) (fun (x104_17 : Bool) => Ow.emp) hS ?_ ?_
          · -- up to where ways meet
            clear hS
            intro k18 hS
            refine VC.region ?_
            refine VL.q (q_move rfl) (by decide) ?_
            refine VL.q (q_move rfl) (by decide) ?_
            obtain ⟨y90_19, ey90_19, hS⟩ := bd_s hS
            refine VL.callF (todo_Check_ct a_0 a_1 ey90_19) rfl (by decide) ?_
            rintro q90_19_0 rfl
            try dsimp only
            refine VL.q (q_move rfl) (by decide) ?_
            obtain ⟨y92_20, ey92_20, hS⟩ := bd_s hS
            refine VL.callO (rectolaw21_Of_ct a_0 ey92_20) rfl (by decide) ?_
            rintro q92_20_0 rfl
            try dsimp only
            refine VL.q (q_move rfl) (by decide) ?_
            refine VL.shut q92_20_0 111 (fun _ _ _ _ => trivial) ?_
            obtain ⟨y94_21, ey94_21, hS⟩ := bd_s hS
            refine VL.callF (rectoref17_CheckTodo_ct q92_20_0 a_1 ey94_21) rfl (by decide) ?_
            rintro q94_21_0 rfl
            try dsimp only
            obtain ⟨y95_22, ey95_22, hS⟩ := bd_s hS
            refine VL.q (q_call (rectolaw2_Tells_ct q90_19_0 q94_21_0 ey95_22) rfl (fun _ _ => rfl)) (by decide) ?_
            refine VL.q (q_not rfl) (by decide) ?_
            refine VL.q (q_move rfl) (by decide) ?_
            refine VL.split 97 rfl (fun h97 => ?_) (fun h97 => ?_)
            ·
              replace hS := it_t h97 hS
              refine VL.gn rfl rfl rfl (by decide) ?_
              refine VL.gn rfl rfl rfl (by decide) ?_
              refine VL.gn rfl rfl rfl (by decide) ?_
              refine VL.gn rfl rfl rfl (by decide) ?_
              refine VL.gn rfl rfl rfl (by decide) ?_
              refine VL.gn rfl rfl rfl (by decide) ?_
              refine VL.q (q_pick_t rfl rfl) (by decide) ?_
              refine VL.mt true [0, 5, 104] (fun _ _ h => h) hS rfl
            ·
              replace hS := it_b h97 hS
              refine VL.gy rfl rfl (q_move rfl) (by decide) ?_
              obtain ⟨y99_23, ey99_23, hS⟩ := bd_s hS
              refine VL.gy rfl rfl (q_call (todo_Text_ct a_0 ey99_23) rfl (fun _ _ => rfl)) (by decide) ?_
              refine VL.gy rfl rfl (q_move rfl) (by decide) ?_
              refine VL.guard rfl rfl ?_
              obtain ⟨y101_24, ey101_24, hS⟩ := bd_s hS
              refine VL.callO (rectolaw21_Of_ct a_0 ey101_24) rfl (by decide) ?_
              rintro q101_24_0 rfl
              try dsimp only
              obtain ⟨y102_25, ey102_25, hS⟩ := bd_s hS
              refine VL.gy rfl rfl (q_callR (rectoref17_Text_ct q101_24_0 ey102_25) rfl (fun _ _ => rfl)) (by decide) ?_
              refine VL.gy rfl rfl (q_sne rfl rfl) (by decide) ?_
              refine VL.q (q_pick_f rfl rfl) (by decide) ?_
              refine VL.mt (!decide (y99_23 = y102_25)) [0, 5, 104] (fun _ _ h => h) hS rfl
          · -- from there
            clear hS
            rintro x104_17 hS
            show VC _ _ _ _ _ [(0, a_0.val), (5, .bool x5_5), (104, .bool x104_17)] (Mo.and Mo.tt _) (Ow.emp)
            refine VC.cond rfl (fun h104 => ?_) (fun h104 => ?_)
            ·
              replace hS := it_t h104 hS
              refine VC.seq ?_
              refine VC.region ?_
              refine VL.q (q_assign rfl) (by decide) ?_
              refine VL.to (fun _ _ h => h) ?_
              cases hS
              exact VC.ret (fin1 (.inr rfl) rfl rfl () rfl trivial (fun _ _ => trivial) (fun _ _ => trivial))
            ·
              replace hS := it_b h104 hS
              refine VC.skip_to (fun _ _ h => h) ?_
              refine VC.seq ?_
              refine VC.seq ?_
              refine VC.region ?_
              refine VL.q (q_move rfl) (by decide) ?_
              refine VL.q (q_not rfl) (by decide) ?_
              refine VL.to (fun _ _ h => h) ?_
              refine VC.cond rfl (fun h106 => ?_) (fun h106 => ?_)
              ·
                replace hS := it_t h106 hS
                refine VC.seq ?_
                refine VC.region ?_
                refine VL.q (q_assign rfl) (by decide) ?_
                refine VL.to (fun _ _ h => h) ?_
                cases hS
                exact VC.ret (fin1 (.inr rfl) rfl rfl () rfl trivial (fun _ _ => trivial) (fun _ _ => trivial))
              ·
                replace hS := it_b h106 hS
                refine VC.skip_to (fun _ _ h => h) ?_
                refine VC.seq ?_
                refine VC.region ?_
                refine VL.q (q_move rfl) (by decide) ?_
                obtain ⟨y109_26, ey109_26, hS⟩ := bd_s hS
                refine VL.q (q_call (todo_Text_ct a_0 ey109_26) rfl (fun _ _ => rfl)) (by decide) ?_
                obtain ⟨y110_27, ey110_27, hS⟩ := bd_s hS
                refine VL.callF (todo_Parse_ct y109_26 ey110_27) rfl (by decide) ?_
                rintro ⟨q110_27_0, q110_27_1⟩ rfl
                try dsimp only
                refine VL.q (q_move rfl) (by decide) ?_
                refine VL.q (q_extract rfl rfl) (by decide) ?_
                refine VL.q (q_extract rfl rfl) (by decide) ?_
                refine VL.q (q_assign rfl) (by decide) ?_
                refine VL.q (q_assign rfl) (by decide) ?_
                refine VL.to (fun _ _ h => h) ?_
                refine VC.keep [0, 8, 9] rfl ?_
                refine VC.seq ?_
                refine VC.cutJ (S := Bool) (fun (x121_28 : Bool) => x121_28) (fun (x121_28 : Bool) => [(0, a_0.val), (8, q110_27_0.val), (121, .bool x121_28)]) (fun (x121_28 : Bool) => Mo.tt) (fun (x121_28 : Bool) => Ow.emp) hS ?_ ?_
                · -- up to where ways meet
                  clear hS
                  intro k29 hS
                  refine VC.region ?_
                  refine VL.q (q_move rfl) (by decide) ?_
                  refine VL.q (q_erne Tryz.underlying25 rfl) (by decide) ?_
                  refine VL.q (q_move rfl) (by decide) ?_
                  refine VL.split_ndec 115 rfl (fun h115 => ?_) (fun h115 => ?_)
                  ·
                    replace hS := it_f h115 hS
                    refine VL.gn rfl rfl rfl (by decide) ?_
                    refine VL.gn rfl rfl rfl (by decide) ?_
                    refine VL.gn rfl rfl rfl (by decide) ?_
                    refine VL.gn rfl rfl rfl (by decide) ?_
                    refine VL.gn rfl rfl rfl (by decide) ?_
                    refine VL.q (q_pick_t rfl rfl) (by decide) ?_
                    refine VL.mt true [0, 8, 121] (fun _ _ h => h) hS rfl
                  ·
                    replace hS := it_t h115 hS
                    refine VL.gy rfl rfl (q_move rfl) (by decide) ?_
                    refine VL.gy rfl rfl (q_ln (s := q110_27_0) Tryz.underlying23 rfl) (by decide) ?_
                    refine VL.gy rfl rfl (q_move rfl) (by decide) ?_
                    refine VL.gy rfl rfl (q_ln (s := a_0) Tryz.underlying23 rfl) (by decide) ?_
                    refine VL.gy rfl rfl (q_neq rfl rfl) (by decide) ?_
                    refine VL.q (q_pick_f rfl rfl) (by decide) ?_
                    refine VL.mt (!decide ((q110_27_0.l.length : Int) = (a_0.l.length : Int))) [0, 8, 121] (fun _ _ h => h) hS rfl
                · -- from there
                  clear hS
                  rintro x121_28 hS
                  show VC _ _ _ _ _ [(0, a_0.val), (8, q110_27_0.val), (121, .bool x121_28)] (Mo.and Mo.tt _) (Ow.emp)
                  refine VC.cond rfl (fun h121 => ?_) (fun h121 => ?_)
                  ·
                    replace hS := it_t h121 hS
                    refine VC.seq ?_
                    refine VC.region ?_
                    refine VL.q (q_assign rfl) (by decide) ?_
                    refine VL.to (fun _ _ h => h) ?_
                    cases hS
                    exact VC.ret (fin1 (.inr rfl) rfl rfl () rfl trivial (fun _ _ => trivial) (fun _ _ => trivial))
                  ·
                    replace hS := it_b h121 hS
                    refine VC.skip_to (fun _ _ h => h) ?_
                    refine VC.seq ?_
                    refine VC.seq ?_
                    refine VC.region ?_
                    refine VL.q (q_assign rfl) (by decide) ?_
                    refine VL.to (fun _ _ h => h) ?_
                    refine VC.block ?_
                    refine VC.iter (S := Int) (fun (x10_30 : Int) => x10_30) (fun (x10_30 : Int) => [(0, a_0.val), (8, q110_27_0.val), (10, i64 x10_30)]) (fun (x10_30 : Int) => Mo.tt) (fun (x10_30 : Int) => Ow.emp) 0 [0, 8, 10] hS rfl ?_
                    clear hS
                    rintro x10_30 m1 y1 hS hK1
                    show VC _ _ _ _ _ [(0, a_0.val), (8, q110_27_0.val), (10, i64 x10_30)] (Mo.and Mo.tt _) (Ow.emp)
                    refine VC.seq ?_
                    refine VC.seq ?_
                    refine VC.region ?_
                    refine VL.q (q_move rfl) (by decide) ?_
                    refine VL.q (q_move rfl) (by decide) ?_
                    refine VL.q (q_ln (s := a_0) Tryz.underlying23 rfl) (by decide) ?_
                    refine VL.q (q_lss rfl rfl) (by decide) ?_
                    refine VL.to (fun _ _ h => h) ?_
                    refine VC.cond_dec rfl (fun h125 => ?_) (fun h125 => ?_)
                    ·
                      replace hS := it_t h125 hS
                      refine VC.skip_to (fun _ _ h => h) ?_
                      refine VC.seq ?_
                      refine VC.block ?_
                      refine VC.cutJ (S := Bool) (fun (x188_31 : Bool) => x188_31) (fun (x188_31 : Bool) => [(0, a_0.val), (8, q110_27_0.val), (10, i64 x10_30), (188, .bool x188_31)]) (fun (x188_31 : Bool) => Mo.tt) (fun (x188_31 : Bool) => Ow.emp) hS ?_ ?_
                      · -- up to where ways meet
                        clear hS
                        intro k32 hS
                        refine VC.draw ((List.range 61).map fun k => (k, true)) mixed (by kernel_rfl) (by kernel_rfl) (by kernel_rfl) ?_
                        refine VD.q rfl (q_move rfl) (by decide) ?_
                        refine VD.q rfl (q_move rfl) (by decide) ?_
                        obtain ⟨z130_33, nz130_33, hz130_33, hS⟩ := at_s hS
                        refine VD.q rfl (q_ixm (s := q110_27_0) Tryz.underlying23 gsz41 rfl rfl nz130_33 (lt_of_get nz130_33 hz130_33)) (by decide) ?_
                        refine VD.q rfl (q_field gfa41_0 rfl) (by decide) ?_
                        refine VD.q rfl (q_elf (s := q110_27_0) gone9 rfl hz130_33 rfl) (by decide) ?_
                        refine VD.q rfl (q_move rfl) (by decide) ?_
                        refine VD.q rfl (q_move rfl) (by decide) ?_
                        obtain ⟨z135_34, nz135_34, hz135_34, hS⟩ := at_s hS
                        refine VD.q rfl (q_ixm (s := a_0) Tryz.underlying23 gsz41 rfl rfl nz135_34 (lt_of_get nz135_34 hz135_34)) (by decide) ?_
                        refine VD.q rfl (q_field gfa41_0 rfl) (by decide) ?_
                        refine VD.q rfl (q_elf (s := a_0) gone9 rfl hz135_34 rfl) (by decide) ?_
                        refine VD.q rfl (q_sne rfl rfl) (by decide) ?_
                        refine VD.q rfl (q_move rfl) (by decide) ?_
                        refine VD.split_ndec 139 rfl (fun h139 => ?_) (fun h139 => ?_)
                        ·
                          replace hS := it_f h139 hS
                          refine VD.gn rfl rfl rfl rfl (by decide) ?_
                          refine VD.gn rfl rfl rfl rfl (by decide) ?_
                          refine VD.gn rfl rfl rfl rfl (by decide) ?_
                          refine VD.gn rfl rfl rfl rfl (by decide) ?_
                          refine VD.gn rfl rfl rfl rfl (by decide) ?_
                          refine VD.gn rfl rfl rfl rfl (by decide) ?_
                          refine VD.gn rfl rfl rfl rfl (by decide) ?_
                          refine VD.gn rfl rfl rfl rfl (by decide) ?_
                          refine VD.gn rfl rfl rfl rfl (by decide) ?_
                          refine VD.gn rfl rfl rfl rfl (by decide) ?_
                          refine VD.gn rfl rfl rfl rfl (by decide) ?_
                          refine VD.q rfl (q_pick_t rfl rfl) (by decide) ?_
                          refine VD.q rfl (q_move rfl) (by decide) ?_
                          refine VD.gn rfl rfl rfl rfl (by decide) ?_
                          refine VD.gn rfl rfl rfl rfl (by decide) ?_
                          refine VD.gn rfl rfl rfl rfl (by decide) ?_
                          refine VD.gn rfl rfl rfl rfl (by decide) ?_
                          refine VD.gn rfl rfl rfl rfl (by decide) ?_
                          refine VD.gn rfl rfl rfl rfl (by decide) ?_
                          refine VD.gn rfl rfl rfl rfl (by decide) ?_
                          refine VD.gu rfl rfl rfl (by decide) ?_
                          refine VD.gu rfl rfl rfl (by decide) ?_
                          refine VD.gu rfl rfl rfl (by decide) ?_
                          refine VD.gu rfl rfl rfl (by decide) ?_
                          refine VD.gu rfl rfl rfl (by decide) ?_
                          refine VD.gu rfl rfl rfl (by decide) ?_
                          refine VD.gu rfl rfl rfl (by decide) ?_
                          refine VD.gu rfl rfl rfl (by decide) ?_
                          refine VD.gu rfl rfl rfl (by decide) ?_
                          refine VD.gu rfl rfl rfl (by decide) ?_
                          refine VD.gu rfl rfl rfl (by decide) ?_
                          refine VD.gn rfl rfl rfl rfl (by decide) ?_
                          refine VD.q rfl (q_pick_t rfl rfl) (by decide) ?_
                          refine VD.q rfl (q_move rfl) (by decide) ?_
                          refine VD.gn rfl rfl rfl rfl (by decide) ?_
                          refine VD.gn rfl rfl rfl rfl (by decide) ?_
                          refine VD.gn rfl rfl rfl rfl (by decide) ?_
                          refine VD.gn rfl rfl rfl rfl (by decide) ?_
                          refine VD.gn rfl rfl rfl rfl (by decide) ?_
                          refine VD.gn rfl rfl rfl rfl (by decide) ?_
                          refine VD.gn rfl rfl rfl rfl (by decide) ?_
                          refine VD.gu rfl rfl rfl (by decide) ?_
                          refine VD.gu rfl rfl rfl (by decide) ?_
                          refine VD.gu rfl rfl rfl (by decide) ?_
                          refine VD.gu rfl rfl rfl (by decide) ?_
                          refine VD.gu rfl rfl rfl (by decide) ?_
                          refine VD.gu rfl rfl rfl (by decide) ?_
                          refine VD.gn rfl rfl rfl rfl (by decide) ?_
                          refine VD.q rfl (q_pick_t rfl rfl) (by decide) ?_
                          refine VD.mt true [0, 8, 10, 188] (fun _ _ h => h) hS rfl
                        ·
                          replace hS := it_t h139 hS
                          refine VD.gy rfl rfl rfl (q_move rfl) (by decide) ?_
                          refine VD.gy rfl rfl rfl (q_move rfl) (by decide) ?_
                          obtain ⟨z142_35, nz142_35, hz142_35, hS⟩ := at_s hS
                          refine VD.gy rfl rfl rfl (q_ixm (s := q110_27_0) Tryz.underlying23 gsz41 rfl rfl nz142_35 (lt_of_get nz142_35 hz142_35)) (by decide) ?_
                          refine VD.gy rfl rfl rfl (q_field gfa41_1 rfl) (by decide) ?_
                          refine VD.gy rfl rfl rfl (q_elf (s := q110_27_0) gone3 rfl hz142_35 rfl) (by decide) ?_
                          refine VD.gy rfl rfl rfl (q_move rfl) (by decide) ?_
                          refine VD.gy rfl rfl rfl (q_move rfl) (by decide) ?_
                          obtain ⟨z147_36, nz147_36, hz147_36, hS⟩ := at_s hS
                          refine VD.gy rfl rfl rfl (q_ixm (s := a_0) Tryz.underlying23 gsz41 rfl rfl nz147_36 (lt_of_get nz147_36 hz147_36)) (by decide) ?_
                          refine VD.gy rfl rfl rfl (q_field gfa41_1 rfl) (by decide) ?_
                          refine VD.gy rfl rfl rfl (q_elf (s := a_0) gone3 rfl hz147_36 rfl) (by decide) ?_
                          refine VD.gy rfl rfl rfl (q_neq rfl rfl) (by decide) ?_
                          refine VD.q rfl (q_pick_f rfl rfl) (by decide) ?_
                          refine VD.q rfl (q_move rfl) (by decide) ?_
                          refine VD.split_ndec 152 rfl (fun h152 => ?_) (fun h152 => ?_)
                          ·
                            replace hS := it_f h152 hS
                            refine VD.gn rfl rfl rfl rfl (by decide) ?_
                            refine VD.gn rfl rfl rfl rfl (by decide) ?_
                            refine VD.gn rfl rfl rfl rfl (by decide) ?_
                            refine VD.gn rfl rfl rfl rfl (by decide) ?_
                            refine VD.gn rfl rfl rfl rfl (by decide) ?_
                            refine VD.gn rfl rfl rfl rfl (by decide) ?_
                            refine VD.gn rfl rfl rfl rfl (by decide) ?_
                            refine VD.gu rfl rfl rfl (by decide) ?_
                            refine VD.gu rfl rfl rfl (by decide) ?_
                            refine VD.gu rfl rfl rfl (by decide) ?_
                            refine VD.gu rfl rfl rfl (by decide) ?_
                            refine VD.gu rfl rfl rfl (by decide) ?_
                            refine VD.gu rfl rfl rfl (by decide) ?_
                            refine VD.gu rfl rfl rfl (by decide) ?_
                            refine VD.gu rfl rfl rfl (by decide) ?_
                            refine VD.gu rfl rfl rfl (by decide) ?_
                            refine VD.gu rfl rfl rfl (by decide) ?_
                            refine VD.gu rfl rfl rfl (by decide) ?_
                            refine VD.gn rfl rfl rfl rfl (by decide) ?_
                            refine VD.q rfl (q_pick_t rfl rfl) (by decide) ?_
                            refine VD.q rfl (q_move rfl) (by decide) ?_
                            refine VD.gn rfl rfl rfl rfl (by decide) ?_
                            refine VD.gn rfl rfl rfl rfl (by decide) ?_
                            refine VD.gn rfl rfl rfl rfl (by decide) ?_
                            refine VD.gn rfl rfl rfl rfl (by decide) ?_
                            refine VD.gn rfl rfl rfl rfl (by decide) ?_
                            refine VD.gn rfl rfl rfl rfl (by decide) ?_
                            refine VD.gn rfl rfl rfl rfl (by decide) ?_
                            refine VD.gu rfl rfl rfl (by decide) ?_
                            refine VD.gu rfl rfl rfl (by decide) ?_
                            refine VD.gu rfl rfl rfl (by decide) ?_
                            refine VD.gu rfl rfl rfl (by decide) ?_
                            refine VD.gu rfl rfl rfl (by decide) ?_
                            refine VD.gu rfl rfl rfl (by decide) ?_
                            refine VD.gn rfl rfl rfl rfl (by decide) ?_
                            refine VD.q rfl (q_pick_t rfl rfl) (by decide) ?_
                            refine VD.mt true [0, 8, 10, 188] (fun _ _ h => h) hS rfl
                          ·
                            replace hS := it_t h152 hS
                            refine VD.gy rfl rfl rfl (q_move rfl) (by decide) ?_
                            refine VD.gy rfl rfl rfl (q_move rfl) (by decide) ?_
                            obtain ⟨z155_37, nz155_37, hz155_37, hS⟩ := at_s hS
                            refine VD.gy rfl rfl rfl (q_ixm (s := a_0) Tryz.underlying23 gsz41 rfl rfl nz155_37 (lt_of_get nz155_37 hz155_37)) (by decide) ?_
                            refine VD.gy rfl rfl rfl (q_field gfa41_0 rfl) (by decide) ?_
                            refine VD.gy rfl rfl rfl (q_elf (s := a_0) gone9 rfl hz155_37 rfl) (by decide) ?_
                            refine VD.gy rfl rfl rfl (q_seq rfl rfl) (by decide) ?_
                            refine VD.gy rfl rfl rfl (q_move rfl) (by decide) ?_
                            refine VD.split_dec 159 rfl (fun h159 => ?_) (fun h159 => ?_)
                            ·
                              replace hS := it_t h159 hS
                              refine VD.gy rfl rfl rfl (q_move rfl) (by decide) ?_
                              refine VD.gy rfl rfl rfl (q_move rfl) (by decide) ?_
                              obtain ⟨z162_38, nz162_38, hz162_38, hS⟩ := at_s hS
                              refine VD.gy rfl rfl rfl (q_ixm (s := q110_27_0) Tryz.underlying23 gsz41 rfl rfl nz162_38 (lt_of_get nz162_38 hz162_38)) (by decide) ?_
                              refine VD.gy rfl rfl rfl (q_field gfa41_2 rfl) (by decide) ?_
                              refine VD.gy rfl rfl rfl (q_elf (s := q110_27_0) gone9 rfl hz162_38 rfl) (by decide) ?_
                              refine VD.gy rfl rfl rfl (q_move rfl) (by decide) ?_
                              refine VD.gy rfl rfl rfl (q_move rfl) (by decide) ?_
                              obtain ⟨z167_39, nz167_39, hz167_39, hS⟩ := at_s hS
                              refine VD.gy rfl rfl rfl (q_ixm (s := a_0) Tryz.underlying23 gsz41 rfl rfl nz167_39 (lt_of_get nz167_39 hz167_39)) (by decide) ?_
                              refine VD.gy rfl rfl rfl (q_field gfa41_2 rfl) (by decide) ?_
                              refine VD.gy rfl rfl rfl (q_elf (s := a_0) gone9 rfl hz167_39 rfl) (by decide) ?_
                              refine VD.gy rfl rfl rfl (q_sne rfl rfl) (by decide) ?_
                              refine VD.gy rfl rfl rfl (q_pick_t rfl rfl) (by decide) ?_
                              refine VD.q rfl (q_pick_f rfl rfl) (by decide) ?_
                              refine VD.q rfl (q_move rfl) (by decide) ?_
                              refine VD.split_ndec 173 rfl (fun h173 => ?_) (fun h173 => ?_)
                              ·
                                replace hS := it_f h173 hS
                                refine VD.gn rfl rfl rfl rfl (by decide) ?_
                                refine VD.gn rfl rfl rfl rfl (by decide) ?_
                                refine VD.gn rfl rfl rfl rfl (by decide) ?_
                                refine VD.gn rfl rfl rfl rfl (by decide) ?_
                                refine VD.gn rfl rfl rfl rfl (by decide) ?_
                                refine VD.gn rfl rfl rfl rfl (by decide) ?_
                                refine VD.gn rfl rfl rfl rfl (by decide) ?_
                                refine VD.gu rfl rfl rfl (by decide) ?_
                                refine VD.gu rfl rfl rfl (by decide) ?_
                                refine VD.gu rfl rfl rfl (by decide) ?_
                                refine VD.gu rfl rfl rfl (by decide) ?_
                                refine VD.gu rfl rfl rfl (by decide) ?_
                                refine VD.gu rfl rfl rfl (by decide) ?_
                                refine VD.gn rfl rfl rfl rfl (by decide) ?_
                                refine VD.q rfl (q_pick_t rfl rfl) (by decide) ?_
                                refine VD.mt true [0, 8, 10, 188] (fun _ _ h => h) hS rfl
                              ·
                                replace hS := it_t h173 hS
                                refine VD.gy rfl rfl rfl (q_move rfl) (by decide) ?_
                                refine VD.gy rfl rfl rfl (q_move rfl) (by decide) ?_
                                obtain ⟨z176_40, nz176_40, hz176_40, hS⟩ := at_s hS
                                refine VD.gy rfl rfl rfl (q_ixm (s := a_0) Tryz.underlying23 gsz41 rfl rfl nz176_40 (lt_of_get nz176_40 hz176_40)) (by decide) ?_
                                refine VD.gy rfl rfl rfl (q_field gfa41_0 rfl) (by decide) ?_
                                refine VD.gy rfl rfl rfl (q_elf (s := a_0) gone9 rfl hz176_40 rfl) (by decide) ?_
                                refine VD.gy rfl rfl rfl (q_sne rfl rfl) (by decide) ?_
                                refine VD.gy rfl rfl rfl (q_move rfl) (by decide) ?_
                                refine VD.split_ndec 180 rfl (fun h180 => ?_) (fun h180 => ?_)
                                ·
                                  replace hS := it_f h180 hS
                                  refine VD.gy rfl rfl rfl (q_move rfl) (by decide) ?_
                                  refine VD.gy rfl rfl rfl (q_move rfl) (by decide) ?_
                                  obtain ⟨z183_41, nz183_41, hz183_41, hS⟩ := at_s hS
                                  refine VD.gy rfl rfl rfl (q_ixm (s := q110_27_0) Tryz.underlying23 gsz41 rfl rfl nz183_41 (lt_of_get nz183_41 hz183_41)) (by decide) ?_
                                  refine VD.gy rfl rfl rfl (q_field gfa41_2 rfl) (by decide) ?_
                                  refine VD.gy rfl rfl rfl (q_elf (s := q110_27_0) gone9 rfl hz183_41 rfl) (by decide) ?_
                                  refine VD.gy rfl rfl rfl (q_sne rfl rfl) (by decide) ?_
                                  refine VD.gy rfl rfl rfl (q_pick_t rfl rfl) (by decide) ?_
                                  refine VD.q rfl (q_pick_f rfl rfl) (by decide) ?_
                                  refine VD.mt (!decide (z183_41.text = [])) [0, 8, 10, 188] (fun _ _ h => h) hS rfl
                                ·
                                  replace hS := it_t h180 hS
                                  refine VD.gn rfl rfl rfl rfl (by decide) ?_
                                  refine VD.gn rfl rfl rfl rfl (by decide) ?_
                                  refine VD.gn rfl rfl rfl rfl (by decide) ?_
                                  refine VD.gn rfl rfl rfl rfl (by decide) ?_
                                  refine VD.gn rfl rfl rfl rfl (by decide) ?_
                                  refine VD.gn rfl rfl rfl rfl (by decide) ?_
                                  refine VD.gy rfl rfl rfl (q_pick_f rfl rfl) (by decide) ?_
                                  refine VD.q rfl (q_pick_f rfl rfl) (by decide) ?_
                                  refine VD.mt false [0, 8, 10, 188] (fun _ _ h => h) hS rfl
                            ·
                              replace hS := it_f h159 hS
                              refine VD.gn rfl rfl rfl rfl (by decide) ?_
                              refine VD.gn rfl rfl rfl rfl (by decide) ?_
                              refine VD.gn rfl rfl rfl rfl (by decide) ?_
                              refine VD.gn rfl rfl rfl rfl (by decide) ?_
                              refine VD.gn rfl rfl rfl rfl (by decide) ?_
                              refine VD.gn rfl rfl rfl rfl (by decide) ?_
                              refine VD.gn rfl rfl rfl rfl (by decide) ?_
                              refine VD.gn rfl rfl rfl rfl (by decide) ?_
                              refine VD.gn rfl rfl rfl rfl (by decide) ?_
                              refine VD.gn rfl rfl rfl rfl (by decide) ?_
                              refine VD.gn rfl rfl rfl rfl (by decide) ?_
                              refine VD.gy rfl rfl rfl (q_pick_f rfl rfl) (by decide) ?_
                              refine VD.q rfl (q_pick_f rfl rfl) (by decide) ?_
                              refine VD.q rfl (q_move rfl) (by decide) ?_
                              refine VD.gy rfl rfl rfl (q_move rfl) (by decide) ?_
                              refine VD.gy rfl rfl rfl (q_move rfl) (by decide) ?_
                              obtain ⟨z176_42, nz176_42, hz176_42, hS⟩ := at_s hS
                              refine VD.gy rfl rfl rfl (q_ixm (s := a_0) Tryz.underlying23 gsz41 rfl rfl nz176_42 (lt_of_get nz176_42 hz176_42)) (by decide) ?_
                              refine VD.gy rfl rfl rfl (q_field gfa41_0 rfl) (by decide) ?_
                              refine VD.gy rfl rfl rfl (q_elf (s := a_0) gone9 rfl hz176_42 rfl) (by decide) ?_
                              refine VD.gy rfl rfl rfl (q_sne rfl rfl) (by decide) ?_
                              refine VD.gy rfl rfl rfl (q_move rfl) (by decide) ?_
                              refine VD.split_ndec 180 rfl (fun h180 => ?_) (fun h180 => ?_)
                              ·
                                replace hS := it_f h180 hS
                                refine VD.gy rfl rfl rfl (q_move rfl) (by decide) ?_
                                refine VD.gy rfl rfl rfl (q_move rfl) (by decide) ?_
                                obtain ⟨z183_43, nz183_43, hz183_43, hS⟩ := at_s hS
                                refine VD.gy rfl rfl rfl (q_ixm (s := q110_27_0) Tryz.underlying23 gsz41 rfl rfl nz183_43 (lt_of_get nz183_43 hz183_43)) (by decide) ?_
                                refine VD.gy rfl rfl rfl (q_field gfa41_2 rfl) (by decide) ?_
                                refine VD.gy rfl rfl rfl (q_elf (s := q110_27_0) gone9 rfl hz183_43 rfl) (by decide) ?_
                                refine VD.gy rfl rfl rfl (q_sne rfl rfl) (by decide) ?_
                                refine VD.gy rfl rfl rfl (q_pick_t rfl rfl) (by decide) ?_
                                refine VD.q rfl (q_pick_f rfl rfl) (by decide) ?_
                                refine VD.mt (!decide (z183_43.text = [])) [0, 8, 10, 188] (fun _ _ h => h) hS rfl
                              ·
                                replace hS := it_t h180 hS
                                refine VD.gn rfl rfl rfl rfl (by decide) ?_
                                refine VD.gn rfl rfl rfl rfl (by decide) ?_
                                refine VD.gn rfl rfl rfl rfl (by decide) ?_
                                refine VD.gn rfl rfl rfl rfl (by decide) ?_
                                refine VD.gn rfl rfl rfl rfl (by decide) ?_
                                refine VD.gn rfl rfl rfl rfl (by decide) ?_
                                refine VD.gy rfl rfl rfl (q_pick_f rfl rfl) (by decide) ?_
                                refine VD.q rfl (q_pick_f rfl rfl) (by decide) ?_
                                refine VD.mt false [0, 8, 10, 188] (fun _ _ h => h) hS rfl
                      · -- from there
                        clear hS
                        rintro x188_31 hS
                        show VC _ _ _ _ _ [(0, a_0.val), (8, q110_27_0.val), (10, i64 x10_30), (188, .bool x188_31)] (Mo.and Mo.tt _) (Ow.emp)
                        refine VC.cond rfl (fun h188 => ?_) (fun h188 => ?_)
                        ·
                          replace hS := it_t h188 hS
                          refine VC.seq ?_
                          refine VC.region ?_
                          refine VL.q (q_assign rfl) (by decide) ?_
                          refine VL.to (fun _ _ h => h) ?_
                          replace hS := up2 hS hK1
                          cases hS
                          exact VC.ret (fin1 (.inr rfl) rfl rfl () rfl trivial (fun _ _ => trivial) (fun _ _ => trivial))
                        ·
                          replace hS := it_b h188 hS
                          refine VC.skip_to (fun _ _ h => h) ?_
                          refine VC.region ?_
                          refine VL.q (q_move rfl) (by decide) ?_
                          obtain ⟨b127, hS⟩ := gd_s hS
                          refine VL.q (q_add rfl rfl b127) (by decide) ?_
                          refine VL.q (q_assign rfl) (by decide) ?_
                          refine VL.rnd (x10_30 + 1) [0, 8, 10] (fun _ _ h => h) (go2 hS hK1) rfl
                    ·
                      replace hS := it_f h125 hS
                      replace hS := up2 hS hK1
                      refine VC.exit_to (fun _ _ h => h) ?_
                      refine VC.seq ?_
                      refine VC.region ?_
                      refine VL.q (q_assign rfl) (by decide) ?_
                      refine VL.to (fun _ _ h => h) ?_
                      cases hS
                      exact VC.ret (fin1 (.inr rfl) rfl rfl () rfl trivial (fun _ _ => trivial) (fun _ _ => trivial))

end Go.Proofs.YtnkoilkmnpmlmaaGreatDoor
end

section
/- Plain laws on loops that compare two rows. No program in sight. -/
namespace Go.S
theorem at_get {α : Type} {l : List α} {i : Int} (h0 : 0 ≤ i) (h : i < l.length) : ∃ z, l[i.toNat]? = some z := ⟨_, List.getElem?_eq_getElem (by omega)⟩
theorem eqloop {α : Type} [DecidableEq α] (P : α → α → Prop) [∀ z w, Decidable (P z w)] (hP : ∀ z w, P z w ↔ z = w) (l r : List α) (hl : (l.length : Int) = r.length) (hb : (l.length : Int) ≤ 1000000000) (B : Int → Option (Int ⊕ Bool))
    (hB : ∀ i, B i = if i < (l.length : Int) then (at_ l i).bind (fun z => (at_ r i).bind (fun w => if P z w then gd (I64 (i + 1)) (go (i + 1)) else up (some false))) else up (some true)) : iter B 0 = some (decide (l = r)) := by
  apply Ok.eq
  refine ok_iter (I := fun i => 0 ≤ i ∧ i ≤ l.length ∧ l.take i.toNat = r.take i.toNat) (μ := fun i => (l.length - i).toNat) ?_ ⟨by omega, by omega, rfl⟩
  rintro i ⟨h0, h1, h2⟩
  rw [hB]
  simp only [ok_if, ok_up, ok_bd, ok_gd, ok_go, ok_some, ok_at]
  refine ⟨fun h => ?_, fun h => ?_⟩
  · obtain ⟨z, hz⟩ := at_get h0 h
    obtain ⟨w, hw⟩ := at_get (l := r) h0 (by omega)
    refine ⟨h0, z, hz, h0, w, hw, fun hp => ?_, fun hp => ?_⟩
    · have e := (hP z w).1 hp
      refine ⟨⟨by omega, by omega⟩, ⟨by omega, by omega, ?_⟩, by omega⟩
      rw [show (i + 1).toNat = i.toNat + 1 by omega, List.take_add_one, List.take_add_one, h2, hz, hw, e]
    · have e : z ≠ w := fun e => hp ((hP z w).2 e)
      refine (decide_eq_false fun q => e ?_).symm
      subst q
      rw [hz] at hw
      exact Option.some.inj hw
  · have e : i.toNat = l.length := by omega
    rw [e, List.take_length] at h2
    rw [show l.length = r.length by omega, List.take_length] at h2
    exact (decide_eq_true h2).symm
end Go.S
end

section
/- Plain laws on rows. No program in sight. -/
namespace Go.S
theorem get_lt {α : Type} {l : List α} {i : Nat} {x : α} (h : l[i]? = some x) : i < l.length := (List.getElem?_eq_some_iff.1 h).1
theorem at_last {α : Type} (l : List α) (z : α) : (l ++ [z])[(((l ++ [z]).length : Int) - 1).toNat]? = some z := by
  rw [show ((((l ++ [z]).length : Int) - 1).toNat) = l.length by simp]
  simp
theorem take_last {α : Type} (l : List α) (z : α) : (l ++ [z]).take (((l ++ [z]).length : Int) - 1).toNat = l := by
  rw [show ((((l ++ [z]).length : Int) - 1).toNat) = l.length by simp]
  simp
theorem set_get_true {l : List Bool} {i j : Nat} (h : l[j]? = some true) : (l.set i true)[j]? = some true := by
  rw [List.getElem?_set]
  split
  · next e => subst e; rw [if_pos (get_lt h)]
  · exact h
theorem count_set_true {l : List Bool} {i : Nat} (h : l[i]? = some false) : (l.set i true).count false + 1 = l.count false := by
  have hi := get_lt h
  rw [List.count_set hi]
  have h1 : l[i] = false := by
    rw [List.getElem?_eq_getElem hi] at h; exact Option.some.inj h
  have h2 : 0 < l.count false := List.count_pos_iff.2 (h1 ▸ List.getElem_mem hi)
  simp [h1]; omega
theorem take_snoc {α : Type} {l : List α} {i : Int} {z : α} (h0 : 0 ≤ i) (h : l[i.toNat]? = some z) : l.take (i + 1).toNat = l.take i.toNat ++ [z] := by
  rw [show (i + 1).toNat = i.toNat + 1 by omega, List.take_add_one, h]; rfl
theorem set_self {x : List Bool} {i : Nat} (h : i < x.length) : (x.set i true)[i]? = some true := by rw [List.getElem?_set, if_pos rfl, if_pos h]
theorem filter_snoc {α : Type} (p : α → Bool) (l : List α) (z : α) : (l ++ [z]).filter p = l.filter p ++ (if p z then [z] else []) := by
  rw [List.filter_append]; cases h : p z <;> simp [h]
theorem map_at {α β : Type} {f : α → β} {l : List α} {i : Int} (h0 : 0 ≤ i) (h : i < (l.map f).length) : ∃ z, l[i.toNat]? = some z ∧ (l.map f)[i.toNat]? = some (f z) := by
  rw [List.length_map] at h
  obtain ⟨z, hz⟩ := at_get h0 h
  exact ⟨z, hz, by rw [List.getElem?_map, hz]; rfl⟩
theorem part_get {α : Type} {r l : List α} {i : Nat} (hl : r.length = l.length) {j : Nat} (h : i ≤ j) : (r.take i ++ l.drop i)[j]? = l[j]? := by
  by_cases hi : i ≤ r.length
  · rw [List.getElem?_append_right (by rw [List.length_take]; omega), List.length_take, List.getElem?_drop]
    congr 1; omega
  · rw [List.getElem?_eq_none (by simp; omega), List.getElem?_eq_none (by omega)]
theorem part_set {α : Type} {r l : List α} {i : Nat} {z : α} (hl : r.length = l.length) (h : r[i]? = some z) : (r.take i ++ l.drop i).set i z = r.take (i + 1) ++ l.drop (i + 1) := by
  have hi := get_lt h
  rw [List.take_add_one, h, List.set_append_right _ _ (by rw [List.length_take]; omega), List.length_take, show i - min i r.length = 0 by omega]
  have hd : l.drop i = l[i] :: l.drop (i + 1) := List.drop_eq_getElem_cons (by omega)
  rw [hd, List.set_cons_zero]
  simp
theorem ok_jnP {S R : Type} {K : S → Option R} {F : (S → Option R) → Option R} {Q : R → Prop} (P : S → Prop) (hK : ∀ s, P s → Ok (K s) Q) (hF : ∀ K' : S → Option R, (∀ s, P s → Ok (K' s) Q) → Ok (F K') Q) : Ok (jn K F) Q := hF K hK
theorem snoc_ind {α : Type} {P : List α → Prop} (h0 : P []) (h1 : ∀ l b, P l → P (l ++ [b])) (l : List α) : P l := by
  have h : ∀ r : List α, P r.reverse := fun r => by
    induction r with
    | nil => exact h0
    | cons x r ih => rw [List.reverse_cons]; exact h1 _ _ ih
  have := h l.reverse
  rwa [List.reverse_reverse] at this
end Go.S
end

section
/- Plain laws on texts: split at a byte, blanks at the ends, words. No program in sight. -/
namespace Go.S
open Go
/-- a text, split at a byte -/
def spl (c : UInt8) : List UInt8 → List (List UInt8)
  | [] => [[]]
  | x :: r => if x = c then [] :: spl c r else match spl c r with
    | [] => [[x]]
    | y :: l => (x :: y) :: l
theorem spl_ne (c : UInt8) : ∀ s, spl c s ≠ []
  | [] => by simp [spl]
  | x :: r => by
    unfold spl
    split
    · simp
    · split <;> simp
theorem spl_len (c : UInt8) : ∀ s, (spl c s).length = s.count c + 1
  | [] => by simp [spl]
  | x :: r => by
    have ih := spl_len c r
    unfold spl
    by_cases h : x = c
    · simp [h, ih]
    · rw [if_neg h, List.count_cons_of_ne (by simpa using h)]
      cases hq : spl c r with
      | nil => exact absurd hq (spl_ne c r)
      | cons y l => rw [hq] at ih; simpa using ih
theorem spl_no {c : UInt8} : ∀ {s : List UInt8}, c ∉ s → spl c s = [s]
  | [], _ => rfl
  | x :: r, h => by
    have hx : x ≠ c := fun e => h (by simp [e])
    rw [spl, if_neg hx, spl_no fun e => h (List.mem_cons_of_mem _ e)]
/-- up to the first, and from behind it -/
theorem spl_at {c : UInt8} : ∀ {a : List UInt8} (b : List UInt8), c ∉ a → spl c (a ++ c :: b) = a :: spl c b
  | [], b, _ => by simp [spl]
  | x :: a, b, h => by
    have hx : x ≠ c := fun e => h (by simp [e])
    rw [List.cons_append, spl, if_neg hx, spl_at b fun e => h (List.mem_cons_of_mem _ e)]
/-- one more byte -/
theorem spl_snoc (c x : UInt8) : ∀ s, ∃ l y, spl c s = l ++ [y] ∧ spl c (s ++ [x]) = if x = c then l ++ [y, []] else l ++ [y ++ [x]]
  | [] => ⟨[], [], rfl, by by_cases h : x = c <;> simp [spl, h]⟩
  | z :: r => by
    obtain ⟨l, y, h1, h2⟩ := spl_snoc c x r
    by_cases hz : z = c
    · refine ⟨[] :: l, y, by simp [spl, hz, h1], ?_⟩
      rw [List.cons_append, spl, if_pos hz, h2]
      split <;> rfl
    · cases l with
      | nil =>
        refine ⟨[], z :: y, by simp [spl, hz, h1], ?_⟩
        rw [List.cons_append, spl, if_neg hz, h2]
        by_cases hx : x = c <;> simp [hx]
      | cons a l =>
        refine ⟨(z :: a) :: l, y, by simp [spl, hz, h1], ?_⟩
        rw [List.cons_append, spl, if_neg hz, h2]
        by_cases hx : x = c <;> simp [hx]
theorem ix_no {c : UInt8} : ∀ {s : List UInt8}, c ∉ s → Lib.indexByte s c = -1
  | [], _ => rfl
  | x :: r, h => by
    have hx : (x == c) = false := by simpa using fun e : x = c => h (by simp [e])
    rw [Lib.indexByte, hx, ix_no fun e => h (List.mem_cons_of_mem _ e)]
    rfl
theorem ix_at {c : UInt8} : ∀ {a : List UInt8} (b : List UInt8), c ∉ a → Lib.indexByte (a ++ c :: b) c = a.length
  | [], b, _ => by simp [Lib.indexByte]
  | x :: a, b, h => by
    have hx : (x == c) = false := by simpa using fun e : x = c => h (by simp [e])
    rw [List.cons_append, Lib.indexByte, hx, ix_at b fun e => h (List.mem_cons_of_mem _ e)]
    simp
/-- a text has a byte: what is ahead of it, and behind -/
theorem split_mem {c : UInt8} {s : List UInt8} (h : c ∈ s) : ∃ a b, s = a ++ c :: b ∧ c ∉ a := by
  induction s with
  | nil => cases h
  | cons x r ih =>
    by_cases hx : x = c
    · exact ⟨[], r, by simp [hx], by simp⟩
    · rcases List.mem_cons.1 h with q | q
      · exact absurd q.symm hx
      · obtain ⟨a, b, e, hn⟩ := ih q
        exact ⟨x :: a, b, by simp [e], by simp [hn, Ne.symm hx]⟩
theorem byte_of (c : UInt8) : (c.toNat : Int).toNat.toUInt8 = c := by simp
theorem ixB_eq (s : List UInt8) (c : UInt8) : ixB s (c.toNat : Int) = Lib.indexByte s c := by unfold ixB; rw [byte_of]
theorem index_ok (s : List UInt8) (c : UInt8) : Sh.internal_stringslite_Index s [c] = some (Lib.indexByte s c) := by
  apply Ok.eq
  unfold Sh.internal_stringslite_Index
  simp only [ok_jn, ok_if, ok_bd, ok_some, ok_at]
  refine ⟨fun h => by simp at h, fun _ => ⟨fun h => ?_, fun _ => ⟨fun _ => ⟨by omega, c, rfl, ?_⟩, fun h => by simp at h⟩⟩⟩
  · have : s = [c] := by simpa using (of_decide_eq_true h).symm
    rw [this]; simp [Lib.indexByte]
  · unfold Sh.internal_stringslite_IndexByte
    rw [ixB_eq]; exact Ok.of rfl rfl
theorem sindex_ok (s : List UInt8) (c : UInt8) : Sh.strings_Index s [c] = some (Lib.indexByte s c) := by
  unfold Sh.strings_Index
  rw [index_ok]; rfl
theorem count_ok (s : List UInt8) (c : UInt8) : Sh.strings_Count s [c] = some (s.count c : Int) := by
  apply Ok.eq
  unfold Sh.strings_Count
  rw [if_neg (by simp), if_pos (by simp)]
  simp only [ok_bd, ok_at, ok_some]
  refine ⟨by omega, c, rfl, ?_⟩
  unfold cntB Lib.countByte
  rw [byte_of]
theorem split_ok {s : List UInt8} (c : UInt8) (hs : s.length ≤ 1000000000) : Sh.strings_Split s [c] = some (spl c s) := by
  apply Ok.eq
  unfold Sh.strings_Split Sh.strings_genSplit
  rw [ok_bd]
  have hc : s.count c ≤ s.length := List.count_le_length
  simp only [count_ok, ok_jn, ok_if, ok_bd, ok_gd, ok_lt, ok_some, ok_at]
  refine ⟨fun h => by omega, fun _ => ⟨fun h => by simp at h, fun _ => ⟨fun _ => ?_, fun h => by omega⟩⟩⟩
  have hm : (min ((s.count c : Int) + 1) ((s.length : Int) + 1)) = (s.count c : Int) + 1 := by omega
  rw [hm]
  refine ⟨⟨by omega, by omega⟩, ⟨by omega, by omega⟩, ⟨by omega, by omega⟩, ⟨by omega, by omega⟩, ?_⟩
  refine ok_iter (I := fun t => 0 ≤ t.2.2 ∧ t.2.2 + t.1.count c = s.count c ∧ t.2.1.length = s.count c + 1 ∧ t.2.1.take t.2.2.toNat ++ spl c t.1 = spl c s ∧ t.1.length ≤ s.length) (μ := fun t => t.1.length) ?_ ⟨by simp, by simp, by simp, by simp, by simp⟩
  rintro ⟨x, l, i⟩ ⟨i0, i1, i2, i3, i4⟩
  dsimp only at i0 i1 i2 i3 i4 ⊢
  have fin : c ∉ x → Ok (((at_ l i).bind fun z61_20 => lt (l.set i.toNat x) fun ys4_22 => gd (I64 (i + 1)) (gd ((0 : Int) ≤ (i + 1) ∧ (i + 1) ≤ (ys4_22.length : Int)) (lt (ys4_22.take (i + 1).toNat) fun y65_24 => some y65_24)))) (fun a => a = spl c s) := fun hx => by
    rw [spl_no hx] at i3
    rw [List.count_eq_zero_of_not_mem hx] at i1
    simp only [ok_bd, ok_gd, ok_lt, ok_some, ok_at]
    obtain ⟨z, hz⟩ := at_get (l := l) i0 (by omega)
    refine ⟨i0, z, hz, ⟨by omega, by omega⟩, ⟨by omega, by rw [List.length_set]; omega⟩, ?_⟩
    rw [← i3, show (i + 1).toNat = i.toNat + 1 by omega, List.take_add_one, List.getElem?_set, if_pos rfl, if_pos (get_lt hz), List.take_set_of_le (Nat.le_refl _)]
    simp
  simp only [ok_jn, ok_if, ok_up, ok_bd, ok_gd, ok_lt, ok_go, ok_some, ok_at, sindex_ok] at fin ⊢
  refine ⟨fun hi => ?_, fun hi => ?_⟩
  · have hmem : c ∈ x := List.count_pos_iff.1 (by omega)
    obtain ⟨a, b, e, ha⟩ := split_mem hmem
    subst e
    rw [ix_at b ha]
    have hl : (a ++ c :: b).length = a.length + b.length + 1 := by simp; omega
    have hcb : (a ++ c :: b).count c = b.count c + 1 := by simp [List.count_eq_zero_of_not_mem ha]
    obtain ⟨z, hz⟩ := at_get (l := l) i0 (by omega)
    refine ⟨fun h => by omega, fun _ => ⟨⟨by omega, by omega⟩, ⟨by omega, by omega⟩, i0, z, hz, ⟨by simp; omega, by simp; omega⟩, ⟨by simp; omega, by simp; omega⟩, ⟨by omega, by omega⟩, ⟨by omega, ?_, by simpa using i2, ?_, ?_⟩, ?_⟩⟩
    · simp only [List.length_cons, List.length_nil]
      rw [show ((a.length : Int) + ((0 + 1 : Nat) : Int)).toNat = a.length + 1 by omega]
      have : (a ++ c :: b).drop (a.length + 1) = b := by simp
      rw [this]; omega
    · simp only [List.length_cons, List.length_nil]
      rw [show ((a.length : Int) + ((0 + 1 : Nat) : Int)).toNat = a.length + 1 by omega, show ((a.length : Int) + 0).toNat = a.length by omega]
      have e1 : (a ++ c :: b).drop (a.length + 1) = b := by simp
      have e2 : (a ++ c :: b).take a.length = a := by simp
      rw [e1, e2, ← i3, spl_at b ha, show (i + 1).toNat = i.toNat + 1 by omega, List.take_add_one, List.getElem?_set, if_pos rfl, if_pos (get_lt hz), List.take_set_of_le (Nat.le_refl _)]
      simp
    · simp; omega
    · simp; omega
  · exact fin fun hm => by have := List.count_pos_iff.2 hm; omega
theorem drop1 {α : Type} (x : α) (r : List α) : (x :: r).drop (1 : Int).toNat = r := rfl
/-- without the blanks ahead -/
def trL (s : List UInt8) : List UInt8 := s.dropWhile (· == 32)
theorem trimLB_ok (s : List UInt8) : Sh.strings_trimLeftByte s ((32 : UInt8).toNat : Int) = some (trL s) := by
  apply Ok.eq
  unfold Sh.strings_trimLeftByte
  refine ok_iter (I := fun t => trL t = trL s) (μ := fun t => t.length) ?_ rfl
  intro t ht
  simp only [ok_if, ok_up, ok_bd, ok_gd, ok_lt, ok_go, ok_some, ok_at]
  cases t with
  | nil => exact ⟨fun h => by simp at h, fun _ => ht⟩
  | cons x r =>
    refine ⟨fun _ => ⟨by omega, x, rfl, fun h => ⟨⟨by omega, by simp; omega⟩, ?_, by simp⟩, fun h => ?_⟩, fun h => absurd (by simp) h⟩
    · have hx : x = 32 := UInt8.toNat_inj.1 (by omega)
      rw [drop1, ← ht, trL, hx]; simp [trL]
    · have hx : (x == 32) = false := by simpa using fun e : x = 32 => h (by rw [e])
      rw [← ht, trL, List.dropWhile_cons, hx]; rfl
theorem trimL_ok (s : List UInt8) : Sh.strings_TrimLeft s [32] = some (trL s) := by
  apply Ok.eq
  unfold Sh.strings_TrimLeft
  simp only [ok_jn, ok_if, ok_bd, ok_some, ok_at]
  refine ⟨fun h => ⟨fun _ => by rw [h]; rfl, fun h => absurd trivial h⟩, fun _ => ⟨fun h => by simp at h, fun _ => ⟨fun _ => ⟨by omega, 32, rfl, fun _ => ⟨by omega, 32, rfl, Ok.of (trimLB_ok s) rfl⟩, fun h => by simp at h⟩, fun h => by simp at h⟩⟩⟩
theorem trL_nil {s : List UInt8} : trL s = [] ↔ ∀ b ∈ s, b = 32 := by
  unfold trL
  induction s with
  | nil => simp
  | cons x r ih =>
    rw [List.dropWhile_cons]
    by_cases h : x = 32
    · simp [h, ih]
    · simp [h]
theorem trimRB_ok {s : List UInt8} (hs : s.length ≤ 1000000000) : Ok (Sh.strings_trimRightByte s ((32 : UInt8).toNat : Int)) fun r => ∃ b, s = r ++ b ∧ ∀ x ∈ b, x = 32 := by
  unfold Sh.strings_trimRightByte
  refine ok_iter (I := fun t => ∃ b, s = t ++ b ∧ ∀ x ∈ b, x = 32) (μ := fun t => t.length) ?_ ⟨[], by simp, by simp⟩
  rintro t ⟨b, hb, hx⟩
  simp only [ok_if, ok_up, ok_bd, ok_gd, ok_lt, ok_go, ok_some, ok_at]
  refine ⟨fun h => ?_, fun _ => ⟨b, hb, hx⟩⟩
  obtain ⟨w, z, rfl⟩ : ∃ w z, t = w ++ [z] := by
    rcases List.eq_nil_or_concat t with e | ⟨w, z, e⟩
    · subst e; simp at h
    · exact ⟨w, z, by simpa using e⟩
  have hlen : (w ++ [z]).length = w.length + 1 := by simp
  have hlm : (w ++ [z]).length ≤ s.length := by rw [hb]; simp
  rw [at_last, take_last]
  refine ⟨⟨by omega, by omega⟩, by omega, z, rfl, fun h => ⟨⟨by omega, by omega⟩, ⟨by omega, by omega⟩, ⟨z :: b, by simp [hb], fun x hx' => ?_⟩, by omega⟩, fun _ => ⟨b, hb, hx⟩⟩
  rcases List.mem_cons.1 hx' with q | q
  · rw [q]; exact UInt8.toNat_inj.1 (by omega)
  · exact hx x q
theorem trim_ok {s : List UInt8} (hs : s.length ≤ 1000000000) : Ok (Sh.strings_Trim s [32]) fun r => r = [] ↔ trL s = [] := by
  unfold Sh.strings_Trim
  simp only [ok_jn, ok_if, ok_bd, ok_some, ok_at]
  refine ⟨fun h => ⟨fun _ => by rw [h]; simp [trL], fun h => absurd trivial h⟩, fun _ => ⟨fun h => by simp at h, fun _ => ⟨fun _ => ⟨by omega, 32, rfl, fun _ => ⟨by omega, 32, rfl, (trimRB_ok hs).mono fun r hr => ⟨by omega, 32, rfl, Ok.of (trimLB_ok r) ?_⟩⟩, fun h => by simp at h⟩, fun h => by simp at h⟩⟩⟩
  obtain ⟨b, hb, hx⟩ := hr
  rw [trL_nil, trL_nil, hb]
  exact ⟨fun h x hx' => (List.mem_append.1 hx').elim (h x) (hx x), fun h x hx' => h x (List.mem_append_left _ hx')⟩
end Go.S
end

section
/- Plain laws on errors: their words, and what the document says of them. No program in sight. -/
namespace Go.S
open Go
/-- the document's error as the program's -/
def ofP : List Rectoref3Part → Int → Err
  | [], e => .no e
  | p :: r, e => .fault p.word p.at_ (ofP r e)
def ofW (w : Rectoref3WrongP) : Err := if w.err = 0 then .nil else ofP w.parts w.err
theorem decF_len : ∀ (f u : Nat), (decF f u).length ≤ f
  | 0, u => by simp [decF]
  | f + 1, u => by
    unfold decF
    split
    · simp
    · have := decF_len f (u / 10); simp; omega
theorem itoaS_len (n : Int) : (itoaS n).length ≤ 21 := by
  unfold itoaS
  split
  · have := decF_len 20 n.natAbs; simp; omega
  · have := decF_len 20 n.toNat; omega
/-- the digits ahead of the last one -/
def preD (u : Nat) : List UInt8 := if u < 10 then [] else Lib.decDigits (u / 10)
theorem preD_eq (u : Nat) : preD u ++ [UInt8.ofNat (48 + u % 10)] = Lib.decDigits u := by
  unfold preD
  conv => rhs; rw [Lib.decDigits]
  by_cases h : u < 10
  · simp [h, Nat.mod_eq_of_lt h]
  · simp [h]
theorem decimal_ok {n : Int} (h0 : 0 ≤ n) (h1 : n ≤ 9223372036854775807) : Sh.rectoref3_Decimal n = some (itoaS n) := by
  rw [itoaS_eq ⟨by omega, h1⟩]
  apply Ok.eq
  unfold Sh.rectoref3_Decimal Lib.itoa
  simp only [ok_if, ok_gd, ok_lt]
  rw [if_neg (by omega)]
  refine ⟨fun h => by omega, fun _ => ⟨⟨h0, by omega⟩, ⟨by omega, by omega⟩, ⟨by omega, by omega⟩, ⟨by omega, by omega⟩, ?_⟩⟩
  refine ok_iter (I := fun t => 0 ≤ t.1 ∧ t.1 ≤ n ∧ preD t.1.toNat ++ t.2 = Lib.decDigits n.toNat ∧ t.2.length + t.1 ≤ n + 1) (μ := fun t => t.1.toNat) ?_ ⟨h0, by dsimp only; omega, ?_, by simp; omega⟩
  · rintro ⟨m, s⟩ ⟨m0, m1, m2, m3⟩
    dsimp only at m0 m1 m2 m3 ⊢
    simp only [ok_if, ok_up, ok_bd, ok_gd, ok_lt, ok_go, ok_some, ok_at]
    refine ⟨fun h => ?_, fun h => ?_⟩
    · refine ⟨⟨⟨m0, by omega⟩, ⟨by omega, by omega⟩⟩, ⟨by omega, by omega⟩, ⟨by omega, by omega⟩, ⟨by omega, by omega⟩, ⟨by omega, by omega⟩, by simp; omega, ⟨by omega, by omega, ?_, by simp; omega⟩, by omega⟩
      rw [← m2, ← List.append_assoc]
      congr 1
      have e1 : preD m.toNat = Lib.decDigits (m.toNat / 10) := by unfold preD; rw [if_neg (by omega)]
      rw [e1, ← preD_eq]
      rw [show (m / 10).toNat = m.toNat / 10 by omega, show (48 + m / 10 % 10).toNat = 48 + m.toNat / 10 % 10 by omega]
    · have e1 : preD m.toNat = [] := by unfold preD; rw [if_pos (by omega)]
      rw [e1] at m2; exact m2
  · rw [← preD_eq n.toNat, show (48 + n % 10).toNat = 48 + n.toNat % 10 by omega]
theorem decimal_r_ok {n : Int} (h0 : 0 ≤ n) (h1 : n ≤ 9223372036854775807) : Sh.rectoref3_Decimal_r n = some (itoaS n) := by
  rw [itoaS_eq ⟨by omega, h1⟩]
  apply Ok.eq
  unfold Sh.rectoref3_Decimal_r Lib.itoa
  simp only [ok_if, ok_gd, ok_lt]
  rw [if_neg (by omega)]
  refine ⟨fun h => by omega, fun _ => ⟨⟨h0, by omega⟩, ⟨by omega, by omega⟩, ⟨by omega, by omega⟩, ⟨by omega, by omega⟩, ?_⟩⟩
  refine ok_iter (I := fun t => 0 ≤ t.1 ∧ t.1 ≤ n ∧ preD t.1.toNat ++ t.2 = Lib.decDigits n.toNat ∧ t.2.length + t.1 ≤ n + 1) (μ := fun t => t.1.toNat) ?_ ⟨h0, by dsimp only; omega, ?_, by simp; omega⟩
  · rintro ⟨m, s⟩ ⟨m0, m1, m2, m3⟩
    dsimp only at m0 m1 m2 m3 ⊢
    simp only [ok_if, ok_up, ok_bd, ok_gd, ok_lt, ok_go, ok_some, ok_at]
    refine ⟨fun h => ?_, fun h => ?_⟩
    · refine ⟨⟨⟨m0, by omega⟩, ⟨by omega, by omega⟩⟩, ⟨by omega, by omega⟩, ⟨by omega, by omega⟩, ⟨by omega, by omega⟩, ⟨by omega, by omega⟩, by simp; omega, ⟨by omega, by omega, ?_, by simp; omega⟩, by omega⟩
      rw [← m2, ← List.append_assoc]
      congr 1
      have e1 : preD m.toNat = Lib.decDigits (m.toNat / 10) := by unfold preD; rw [if_neg (by omega)]
      rw [e1, ← preD_eq]
      rw [show (m / 10).toNat = m.toNat / 10 by omega, show (48 + m / 10 % 10).toNat = 48 + m.toNat / 10 % 10 by omega]
    · have e1 : preD m.toNat = [] := by unfold preD; rw [if_pos (by omega)]
      rw [e1] at m2; exact m2
  · rw [← preD_eq n.toNat, show (48 + n % 10).toNat = 48 + n.toNat % 10 by omega]
theorem decimal_all {n : Int} (h : I64 n) : Sh.rectoref3_Decimal n = some (itoaS n) := by
  by_cases h0 : 0 ≤ n
  · exact decimal_ok h0 h.2
  · obtain ⟨h1, h2⟩ := h
    by_cases hm : n = -9223372036854775808
    · subst hm; decide +kernel
    apply Ok.eq
    unfold Sh.rectoref3_Decimal
    rw [if_pos (by omega), if_neg hm]
    simp only [ok_gd, ok_lt, ok_bd, ok_some]
    have hl := itoaS_len (0 - n)
    refine ⟨⟨by omega, by omega⟩, Ok.of (decimal_r_ok (by omega) (by omega)) ⟨by rw [List.length_singleton]; omega, ?_⟩⟩
    unfold itoaS
    rw [if_neg (by omega), if_pos (by omega), show (0 - n).toNat = n.natAbs by omega]
    rfl
theorem word_ok {e : Int} (h0 : 1 ≤ e) (h1 : e ≤ 14) : ∃ s, Sh.rectoref3_Word e = some s ∧ Sh.api_Errno_Error e = some s ∧ s.length ≤ 10 := by
  have : e = 1 ∨ e = 2 ∨ e = 3 ∨ e = 4 ∨ e = 5 ∨ e = 6 ∨ e = 7 ∨ e = 8 ∨ e = 9 ∨ e = 10 ∨ e = 11 ∨ e = 12 ∨ e = 13 ∨ e = 14 := by omega
  rcases this with h | h | h | h | h | h | h | h | h | h | h | h | h | h <;> subst h <;> exact ⟨_, rfl, rfl, by decide⟩
noncomputable def wordS (e : Int) : List UInt8 := (Sh.rectoref3_Word e).getD []
/-- an error's words -/
noncomputable def wordsS : List Rectoref3Part → Int → List UInt8
  | [], e => wordS e
  | p :: r, e => p.word ++ [32] ++ itoaS p.at_ ++ [58, 32] ++ wordsS r e
/-- parts that are small enough -/
def Pok (l : List Rectoref3Part) : Prop := ∀ p ∈ l, p.word.length ≤ 1000 ∧ 0 ≤ p.at_ ∧ p.at_ ≤ 9223372036854775807
theorem wordsS_len (e : Int) (h0 : 1 ≤ e) (h1 : e ≤ 14) : ∀ (l : List Rectoref3Part), Pok l → (wordsS l e).length ≤ 10 + 1024 * l.length
  | [], _ => by
    obtain ⟨s, h, _, hl⟩ := word_ok h0 h1
    simp [wordsS, wordS, h, hl]
  | p :: r, h => by
    have := wordsS_len e h0 h1 r fun q hq => h q (List.mem_cons_of_mem _ hq)
    have := itoaS_len p.at_
    have := (h p (List.mem_cons_self ..)).1
    simp only [wordsS, List.length_append, List.length_cons, List.length_nil]
    omega
theorem words_ok {w : Rectoref3WrongP} (h0 : 1 ≤ w.err) (h1 : w.err ≤ 14) (hp : Pok w.parts) (hl : w.parts.length ≤ 1000) : Sh.rectoref3_Words w = some (wordsS w.parts w.err) := by
  obtain ⟨parts, e⟩ := w
  dsimp only at h0 h1 hp hl ⊢
  apply Ok.eq
  unfold Sh.rectoref3_Words
  refine ok_iter (I := fun t => 0 ≤ t.2 ∧ t.2 ≤ parts.length ∧ t.1 ++ wordsS (parts.drop t.2.toNat) e = wordsS parts e) (μ := fun t => (parts.length - t.2).toNat) ?_ ⟨by simp, by simp, by simp⟩
  rintro ⟨s, i⟩ ⟨i0, i1, i2⟩
  dsimp only at i0 i1 i2 ⊢
  have hlen := congrArg List.length i2
  rw [List.length_append] at hlen
  have hw := wordsS_len e h0 h1 parts hp
  simp only [ok_if, ok_up, ok_bd, ok_gd, ok_lt, ok_go, ok_some, ok_at]
  refine ⟨fun hi => ?_, fun hi => ?_⟩
  · obtain ⟨z, hz⟩ := at_get (l := parts) i0 hi
    obtain ⟨z1, z2, z3⟩ := hp z (List.mem_of_getElem? hz)
    have := itoaS_len z.at_
    have hd : parts.drop i.toNat = z :: parts.drop (i + 1).toNat := by
      rw [show (i + 1).toNat = i.toNat + 1 by omega]
      have hlt := (List.getElem?_eq_some_iff.1 hz)
      rw [List.drop_eq_getElem_cons hlt.1, hlt.2]
    refine ⟨i0, z, hz, by omega, by simp; omega, i0, z, hz, Ok.of (decimal_ok z2 z3) ⟨by simp; omega, by simp; omega, ⟨by omega, by omega⟩, ⟨by omega, by omega, ?_⟩, by omega⟩⟩
    rw [← i2, hd, wordsS]
    simp
  · rw [show i.toNat = parts.length by omega, List.drop_length] at i2
    obtain ⟨q, hq, _, hl⟩ := word_ok h0 h1
    have e1 : wordsS [] e = q := by simp [wordsS, wordS, hq]
    rw [e1] at i2
    refine Ok.of hq ⟨by omega, i2⟩
theorem ofP_some (l : List Rectoref3Part) (e : Int) : (ofP l e).isNil = false ∧ endNo (ofP l e) = some e := by
  induction l with
  | nil => exact ⟨rfl, rfl⟩
  | cons p r ih => exact ⟨rfl, ih.2⟩
theorem erText_ok {e : Int} (h0 : 1 ≤ e) (h1 : e ≤ 14) : ∀ (l : List Rectoref3Part), Pok l → l.length ≤ 1000 → Sh.erText (ofP l e) = some (wordsS l e)
  | [], _, _ => by
    obtain ⟨s, h, h', hl⟩ := word_ok h0 h1
    simp [ofP, Sh.erText, wordsS, wordS, h, h']
  | p :: r, h, hl => by
    have ih := erText_ok h0 h1 r (fun q hq => h q (List.mem_cons_of_mem _ hq)) (by simp at hl; omega)
    obtain ⟨z1, z2, z3⟩ := h p (List.mem_cons_self ..)
    have hw := wordsS_len e h0 h1 r fun q hq => h q (List.mem_cons_of_mem _ hq)
    have hi := itoaS_len p.at_
    simp only [List.length_cons] at hl
    apply Ok.eq
    simp only [ofP, Sh.erText]
    unfold Sh.api_Fault_Error
    rw [ih]
    dsimp only
    rw [(ofP_some r e).1, if_neg (by simp)]
    simp only [ok_if, ok_up, ok_bd, ok_gd, ok_lt, ok_go, ok_some, ok_at]
    refine ⟨by simp; omega, ⟨by omega, z3⟩, by simp; omega, by simp; omega, by simp; omega, ?_⟩
    simp [wordsS]
/-- what the document says of an error is so -/
theorem tells_ok {w : Rectoref3WrongP} (h0 : 0 ≤ w.err) (h1 : w.err ≤ 14) (hp : Pok w.parts) (hl : w.parts.length ≤ 1000) : Sh.rectolaw2_Tells (ofW w) w = some true := by
  apply Ok.eq
  unfold Sh.rectolaw2_Tells ofW
  by_cases he : w.err = 0
  · rw [if_pos he, if_pos he, ok_some]; rfl
  · rw [if_neg he, if_neg he, (ofP_some w.parts w.err).1, (ofP_some w.parts w.err).2]
    simp only [ok_jn, ok_bd, ok_if, ok_some]
    refine ⟨fun h => (by cases h), fun _ => Ok.of (erText_ok (by omega) h1 _ hp hl) (Ok.of (words_ok (by omega) h1 hp hl) ⟨fun _ => ⟨fun h => by simp at h, fun _ => ⟨fun _ => trivial, fun hn => ?_⟩⟩, fun h => absurd rfl h⟩)⟩
    obtain ⟨parts, e⟩ := w
    cases parts with
    | nil => exact absurd rfl hn
    | cons p r =>
      simp only [ofP, ok_bd, ok_at, ok_if, ok_some]
      exact ⟨by omega, p, rfl, fun _ => ⟨by omega, p, rfl, by simp⟩, fun h => absurd rfl h⟩
theorem tells_at {word : List UInt8} {a e : Int} (hw : word.length ≤ 1000) (a0 : 0 ≤ a) (a1 : a ≤ 9223372036854775807) (e0 : 1 ≤ e) (e1 : e ≤ 14) : Sh.rectolaw2_Tells (.fault word a (.no e)) ⟨[⟨word, a⟩], e⟩ = some true := by
  have := tells_ok (w := ⟨[⟨word, a⟩], e⟩) (by dsimp only; omega) e1 (fun p hp => by cases List.mem_singleton.1 hp; exact ⟨hw, a0, a1⟩) (by simp)
  unfold ofW at this
  rw [if_neg (by dsimp only; omega)] at this
  exact this
theorem tells_none (l : List Rectoref3Part) : Sh.rectolaw2_Tells .nil ⟨l, 0⟩ = some true := rfl
end Go.S
end

section
/- Plain laws on steps in words. No program in sight. -/
namespace Go.S
open Go
theorem byte_eq {z : UInt8} {n : Nat} (hn : n < 256) : ((z.toNat : Int) = n) ↔ z = UInt8.ofNat n := by
  constructor
  · intro h
    apply UInt8.toNat_inj.1
    simp [Nat.mod_eq_of_lt hn]; omega
  · intro h
    subst h
    simp [Nat.mod_eq_of_lt hn]
theorem mid1 {α : Type} {s : List α} {i : Int} {z : α} (h0 : 0 ≤ i) (h : s[i.toNat]? = some z) : (s.drop i.toNat).take ((i + 1).toNat - i.toNat) = [z] := by
  obtain ⟨h1, h2⟩ := List.getElem?_eq_some_iff.1 h
  rw [show (i + 1).toNat - i.toNat = 1 by omega, List.drop_eq_getElem_cons h1, h2]
  rfl
theorem spl_part (c : UInt8) : ∀ (s : List UInt8), ∀ y ∈ spl c s, y.length ≤ s.length
  | [], y, h => by simp [spl] at h; simp [h]
  | x :: r, y, h => by
    have ih := spl_part c r
    unfold spl at h
    split at h
    · rcases List.mem_cons.1 h with q | q
      · simp [q]
      · have := ih y q; simp; omega
    · split at h
      · have := List.mem_singleton.1 h; simp [this]
      · next a l hq =>
        rcases List.mem_cons.1 h with q | q
        · have := ih a (by rw [hq]; simp); simp [q]; omega
        · have := ih y (by rw [hq]; simp [q]); simp; omega
theorem lines_ok {s : List UInt8} (hs : s.length ≤ 1000000) : Sh.rectoref17_Lines s = some (spl 10 s) := by
  apply Ok.eq
  unfold Sh.rectoref17_Lines
  rw [ok_lt]
  refine ok_iter (I := fun t => 0 ≤ t.2 ∧ t.2 ≤ s.length ∧ t.1 = spl 10 (s.take t.2.toNat)) (μ := fun t => (s.length - t.2).toNat) ?_ ⟨by simp, by simp, by simp [spl]⟩
  rintro ⟨o, i⟩ ⟨i0, i1, i2⟩
  dsimp only at i0 i1 i2 ⊢
  simp only [ok_jn, ok_if, ok_up, ok_bd, ok_gd, ok_lt, ok_go, ok_some, ok_at]
  refine ⟨fun hi => ?_, fun hi => ?_⟩
  · obtain ⟨z, hz⟩ := at_get (l := s) i0 hi
    obtain ⟨l, y, h1, h2⟩ := spl_snoc 10 z (s.take i.toNat)
    rw [← take_snoc i0 hz] at h2
    rw [← i2] at h1
    have hlen : o.length ≤ s.length + 1 := by
      rw [i2, spl_len]
      have : (s.take i.toNat).count 10 ≤ (s.take i.toNat).length := List.count_le_length
      rw [List.length_take] at this; omega
    subst h1
    have hl1 : (l ++ [y]).length = l.length + 1 := by simp
    refine ⟨i0, z, hz, fun hb => ?_, fun hb => ?_⟩
    · have hz10 : z = 10 := (byte_eq (n := 10) (by decide)).1 hb
      refine ⟨by simp; omega, ⟨by omega, by omega⟩, ⟨by omega, by omega, ?_⟩, by omega⟩
      rw [h2, if_pos hz10]; simp
    · have hz10 : ¬ z = 10 := fun e => hb ((byte_eq (n := 10) (by decide)).2 e)
      have hyl : y.length ≤ s.length := by
        have := spl_part 10 (s.take i.toNat) y (by rw [← i2]; simp)
        rw [List.length_take] at this; omega
      rw [at_last]
      refine ⟨⟨by omega, by omega⟩, ⟨by omega, by omega⟩, by omega, y, rfl, ⟨by omega, by omega⟩, ⟨i0, by omega, by omega⟩, ?_⟩
      rw [mid1 i0 hz]
      refine ⟨by simp; omega, by omega, y, rfl, ⟨by omega, by omega⟩, ⟨by omega, by omega, ?_⟩, by omega⟩
      rw [h2, if_neg hz10, show ((((l ++ [y]).length : Int) - 1).toNat) = l.length by simp]
      simp
  · rw [i2, show i.toNat = s.length by omega, List.take_length]
/-- the first word, and what is behind it -/
def wd (s : List UInt8) : List UInt8 := s.takeWhile (· != 32)
def rs (s : List UInt8) : List UInt8 := s.dropWhile (· != 32)
theorem wd_rs (s : List UInt8) : wd s ++ rs s = s := List.takeWhile_append_dropWhile
theorem trL_len (s : List UInt8) : (trL s).length ≤ s.length := by
  unfold trL
  exact (List.dropWhile_suffix _).length_le
theorem rs_len (s : List UInt8) : (rs s).length ≤ s.length := by
  unfold rs
  exact (List.dropWhile_suffix _).length_le
theorem wd_len (s : List UInt8) : (wd s).length ≤ s.length := by
  unfold wd
  exact (List.takeWhile_prefix _).length_le
theorem trL_head {s : List UInt8} {x : UInt8} {r : List UInt8} (h : trL s = x :: r) : x ≠ 32 := by
  unfold trL at h
  induction s with
  | nil => cases h
  | cons y q ih =>
    rw [List.dropWhile_cons] at h
    by_cases hy : y = 32
    · exact ih (by simpa [hy] using h)
    · simp [hy] at h
      rw [← h.1]; exact hy
theorem wd_nil {s : List UInt8} : wd (trL s) = [] ↔ trL s = [] := by
  constructor
  · intro h
    cases hq : trL s with
    | nil => rfl
    | cons x r =>
      have := trL_head hq
      rw [hq, wd, List.takeWhile_cons] at h
      simp [this] at h
  · intro h; rw [h]; rfl
theorem trL_idem (s : List UInt8) : trL (trL s) = trL s := by
  cases hq : trL s with
  | nil => rfl
  | cons x r =>
    have := trL_head hq
    rw [trL, List.dropWhile_cons]
    simp [this]
theorem drop_cons {α : Type} {s : List α} {i : Int} {z : α} (h0 : 0 ≤ i) (h : s[i.toNat]? = some z) : s.drop i.toNat = z :: s.drop (i + 1).toNat := by
  obtain ⟨h1, h2⟩ := List.getElem?_eq_some_iff.1 h
  rw [show (i + 1).toNat = i.toNat + 1 by omega, List.drop_eq_getElem_cons h1, h2]
theorem word17_ok {s : List UInt8} (hs : s.length ≤ 1000000) : Sh.rectoref17_word s = some (wd (trL s), rs (trL s)) := by
  apply Ok.eq
  unfold Sh.rectoref17_word
  rw [ok_jn]
  refine ok_iter (I := fun i => 0 ≤ i ∧ i ≤ s.length ∧ trL s = trL (s.drop i.toNat)) (μ := fun i => (s.length - i).toNat) ?_ ⟨by omega, by omega, by simp⟩
  rintro i ⟨i0, i1, i2⟩
  have key : trL (s.drop i.toNat) = s.drop i.toNat → Ok (jn (fun (k5_5 : Int) =>
      gd ((0 : Int) ≤ i ∧ i ≤ k5_5 ∧ k5_5 ≤ (s.length : Int)) (
      lt ((s.drop i.toNat).take (k5_5.toNat - i.toNat)) (fun y34_9 =>
      gd ((0 : Int) ≤ k5_5 ∧ k5_5 ≤ (s.length : Int)) (
      lt (s.drop k5_5.toNat) (fun y37_10 =>
      some (y34_9, y37_10)))))) (fun k6 => iter (fun (k5_7 : Int) =>
      if k5_7 < (s.length : Int) then ((at_ s k5_7).bind (fun z26_8 =>
      if (z26_8.toNat : Int) = 32 then (up (k6 k5_7))
      else (gd (I64 (k5_7 + 1)) (
      go (k5_7 + 1)))))
      else (up (k6 k5_7))) i)) (fun a => a = (wd (trL s), rs (trL s))) := fun ht => by
    rw [i2, ht, ok_jn]
    refine ok_iter (I := fun k => i ≤ k ∧ k ≤ s.length ∧ wd (s.drop i.toNat) = (s.drop i.toNat).take (k.toNat - i.toNat) ++ wd (s.drop k.toNat) ∧ rs (s.drop i.toNat) = rs (s.drop k.toNat)) (μ := fun k => (s.length - k).toNat) ?_ ⟨by omega, by omega, by simp, rfl⟩
    rintro k ⟨k0, k1, k2, k3⟩
    simp only [ok_jn, ok_if, ok_up, ok_bd, ok_gd, ok_lt, ok_go, ok_some, ok_at]
    refine ⟨fun hk => ?_, fun hk => ?_⟩
    · obtain ⟨z, hz⟩ := at_get (l := s) (i := k) (by omega) hk
      have hd := drop_cons (by omega) hz
      refine ⟨by omega, z, hz, fun hb => ?_, fun hb => ?_⟩
      · have hz32 : z = 32 := (byte_eq (n := 32) (by decide)).1 hb
        have e1 : wd (s.drop k.toNat) = [] := by rw [hd, wd, List.takeWhile_cons]; simp [hz32]
        have e2 : rs (s.drop k.toNat) = s.drop k.toNat := by rw [hd, rs, List.dropWhile_cons]; simp [hz32]
        refine ⟨⟨i0, k0, k1⟩, ⟨by omega, k1⟩, ?_⟩
        rw [k2, k3, e1, e2, List.append_nil]
      · have hz32 : ¬ z = 32 := fun e => hb ((byte_eq (n := 32) (by decide)).2 e)
        refine ⟨⟨by omega, by omega⟩, ⟨by omega, by omega, ?_, ?_⟩, by omega⟩
        · rw [k2, hd, wd, List.takeWhile_cons]
          simp only [hz32, bne_iff_ne, ne_eq, not_false_eq_true, if_true]
          rw [show (k + 1).toNat - i.toNat = (k.toNat - i.toNat) + 1 by omega, List.take_add_one, List.getElem?_drop, show i.toNat + (k.toNat - i.toNat) = k.toNat by omega, hz]
          simp [wd]
        · rw [k3, hd, rs, List.dropWhile_cons]
          simp [hz32, rs]
    · have e : s.drop k.toNat = [] := List.drop_eq_nil_of_le (by omega)
      refine ⟨⟨i0, k0, k1⟩, ⟨by omega, k1⟩, ?_⟩
      rw [k2, k3, e]; simp [wd, rs]
  simp only [ok_if, ok_up, ok_bd, ok_gd, ok_lt, ok_go, ok_some, ok_at]
  refine ⟨fun hi => ?_, fun hi => key ?_⟩
  · obtain ⟨z, hz⟩ := at_get (l := s) i0 hi
    have hd := drop_cons i0 hz
    refine ⟨i0, z, hz, fun hb => ?_, fun hb => key ?_⟩
    · have hz32 : z = 32 := (byte_eq (n := 32) (by decide)).1 hb
      refine ⟨⟨by omega, by omega⟩, ⟨by omega, by omega, ?_⟩, by omega⟩
      rw [i2, hd, trL, List.dropWhile_cons]; simp [hz32, trL]
    · have hz32 : ¬ z = 32 := fun e => hb ((byte_eq (n := 32) (by decide)).2 e)
      rw [hd, trL, List.dropWhile_cons]; simp [hz32]
  · rw [List.drop_eq_nil_of_le (by omega)]; rfl
theorem blank_ok {s : List UInt8} (hs : s.length ≤ 1000000) : Sh.rectoref17_blank s = some (decide (trL s = [])) := by
  unfold Sh.rectoref17_blank
  rw [word17_ok hs]
  simp only [Option.bind_some]
  congr 1
  exact decide_eq_decide.2 wd_nil
end Go.S
end

section
namespace Go.S
open Go
def toR (x : TodoStep) : Rectoref17Step := ⟨x.verb, x.commit, x.text⟩
theorem same21_ok {l : List TodoStep} (h : l.length ≤ 1000000) : Sh.rectolaw21_Same l (l.map toR) = some true := by
  apply Ok.eq
  unfold Sh.rectolaw21_Same
  rw [if_pos (by simp)]
  refine ok_iter (I := fun i => 0 ≤ i ∧ i ≤ l.length) (μ := fun i => (l.length - i).toNat) ?_ ⟨by omega, by omega⟩
  rintro i ⟨h0, h1⟩
  simp only [ok_jn, ok_if, ok_up, ok_bd, ok_gd, ok_lt, ok_go, ok_some, ok_at]
  refine ⟨fun hi => ?_, fun _ => trivial⟩
  obtain ⟨z, hz⟩ := at_get (l := l) h0 hi
  have hz' : (l.map toR)[i.toNat]? = some (toR z) := by rw [List.getElem?_map, hz]; rfl
  refine ⟨h0, z, hz, h0, _, hz', fun _ => ⟨h0, z, hz, h0, _, hz', fun _ => ⟨h0, z, hz, h0, _, hz', fun h => ?_, fun _ => ⟨⟨by omega, by omega⟩, ⟨by omega, by omega⟩, by omega⟩⟩, fun h => absurd rfl h⟩, fun h => absurd rfl h⟩
  simp [toR] at h
theorem clip_step (l : List TodoStep) : Sh.slices_Clip_todo_Step_todo_Step l = some l := by
  unfold Sh.slices_Clip_todo_Step_todo_Step
  simp [gd, lt]
end Go.S
end

section
namespace Go.S
open Go
def verbsL : List (List UInt8) := [[112, 105, 99, 107], [114, 101, 119, 111, 114, 100], [101, 100, 105, 116], [115, 113, 117, 97, 115, 104], [102, 105, 120, 117, 112], [100, 114, 111, 112]]
def isV (s : List UInt8) : Bool := decide (s ∈ verbsL)
theorem verb_ok (s : List UInt8) : ∃ b, Sh.todo_verb s = some (isV s, b) := by
  unfold Sh.todo_verb isV verbsL
  simp only [jn]
  by_cases h1 : s = [115, 113, 117, 97, 115, 104]
  · exact ⟨true, by simp [h1]⟩
  by_cases h2 : s = [102, 105, 120, 117, 112]
  · exact ⟨true, by simp [h2]⟩
  by_cases h3 : s = [112, 105, 99, 107]
  · exact ⟨false, by simp [h3]⟩
  by_cases h4 : s = [114, 101, 119, 111, 114, 100]
  · exact ⟨false, by simp [h4]⟩
  by_cases h5 : s = [101, 100, 105, 116]
  · exact ⟨false, by simp [h5]⟩
  by_cases h6 : s = [100, 114, 111, 112]
  · exact ⟨false, by simp [h6]⟩
  · exact ⟨false, by simp [h1, h2, h3, h4, h5, h6]⟩
theorem rverb_ok (s : List UInt8) : Ok (Sh.rectoref17_Verb s) fun v => (v < 0 ↔ isV s = false) := by
  unfold Sh.rectoref17_Verb
  rw [ok_lt]
  refine ok_iter (I := fun i => 0 ≤ i ∧ i ≤ 6 ∧ s ∉ verbsL.take i.toNat) (μ := fun i => (6 - i).toNat) ?_ ⟨by omega, by omega, by simp⟩
  rintro i ⟨i0, i1, i2⟩
  simp only [ok_if, ok_up, ok_bd, ok_gd, ok_go, ok_some, ok_at]
  have hlen : verbsL.length = 6 := rfl
  refine ⟨fun hi => ?_, fun hi => ?_⟩
  · obtain ⟨z, hz⟩ := at_get (l := verbsL) i0 (by rw [hlen]; simpa using hi)
    refine ⟨i0, z, hz, fun e => ?_, fun e => ⟨⟨by omega, by omega⟩, ⟨by omega, by simp at hi; omega, ?_⟩, by simp at hi; omega⟩⟩
    · subst e
      have : isV z = true := decide_eq_true (List.mem_of_getElem? hz)
      rw [this]; simp; omega
    · rw [take_snoc i0 hz]
      intro q
      rcases List.mem_append.1 q with q | q
      · exact i2 q
      · exact e (List.mem_singleton.1 q).symm
  · have : i.toNat = 6 := by simp at hi; omega
    rw [this] at i2
    have : isV s = false := decide_eq_false i2
    rw [this]; simp
/-- a number in digits -/
def val (l : List UInt8) : Int := l.foldl (fun n b => 10 * n + ((b.toNat : Int) - 48)) 0
def dig (b : UInt8) : Prop := 48 ≤ (b.toNat : Int) ∧ (b.toNat : Int) ≤ 57
instance (b : UInt8) : Decidable (dig b) := inferInstanceAs (Decidable (_ ∧ _))
theorem val_snoc (l : List UInt8) (b : UInt8) : val (l ++ [b]) = 10 * val l + ((b.toNat : Int) - 48) := by simp [val]
def numOk (s : List UInt8) : Prop := 1 ≤ s.length ∧ s.length ≤ 7 ∧ s[0]? ≠ some 48 ∧ (∀ b ∈ s, dig b) ∧ val s ≤ 1000000
instance (s : List UInt8) : Decidable (numOk s) := inferInstanceAs (Decidable (_ ∧ _))
theorem val_bound {l : List UInt8} (h : ∀ b ∈ l, dig b) : 0 ≤ val l ∧ val l < 10 ^ l.length := by
  induction l using snoc_ind with
  | h0 => simp [val]
  | h1 l b ih =>
    have ih := ih fun x hx => h x (List.mem_append_left _ hx)
    have hb := h b (by simp)
    obtain ⟨h1, h2⟩ := hb
    rw [val_snoc, List.length_append, List.length_singleton, Int.pow_succ]
    omega
theorem val_pos {l : List UInt8} (h : ∀ b ∈ l, dig b) (h0 : l[0]? ≠ some 48) (hl : 1 ≤ l.length) : 1 ≤ val l := by
  induction l using snoc_ind with
  | h0 => simp at hl
  | h1 l b ih =>
    have hd := h b (by simp)
    obtain ⟨h1, h2⟩ := hd
    rw [val_snoc]
    cases l with
    | nil =>
      have : b.toNat ≠ 48 := fun e => h0 (by simp; exact UInt8.toNat_inj.1 e)
      simp [val]; omega
    | cons x r =>
      have := ih (fun y hy => h y (List.mem_append_left _ hy)) (by simpa using h0) (by simp)
      omega
theorem wrap_b (z : UInt8) : IntKind.wrap .i64 ((z.toNat : Int) - 48) = (z.toNat : Int) - 48 := by
  have := z.toNat_lt
  exact IntWalk.i64_in _ (by omega)
theorem pow7 {n : Nat} (h : n ≤ 7) : (10 : Int) ^ n ≤ 10000000 := by
  have : n = 0 ∨ n = 1 ∨ n = 2 ∨ n = 3 ∨ n = 4 ∨ n = 5 ∨ n = 6 ∨ n = 7 := by omega
  rcases this with h | h | h | h | h | h | h | h <;> subst h <;> decide
theorem number_ok (s : List UInt8) : Ok (Sh.todo_number s) fun r => (r.2 = true ↔ numOk s) ∧ (numOk s → r.1 = val s) := by
  unfold Sh.todo_number
  simp only [ok_jn, ok_if, ok_gd, ok_lt, ok_bd, ok_some, ok_at]
  have no : ¬ numOk s → (((0 : Int), false).2 = true ↔ numOk s) ∧ (numOk s → ((0 : Int), false).1 = val s) := fun h => ⟨⟨fun q => (by cases q), fun q => absurd q h⟩, fun q => absurd q h⟩
  refine ⟨fun h => ⟨fun _ => no fun q => by have := q.1; simp [h] at this, fun h => absurd trivial h⟩, fun hne => ⟨fun h7 => ⟨fun _ => no fun q => by have := q.2.1; omega, fun h => absurd trivial h⟩, fun h7 => ?_⟩⟩
  have hl : 1 ≤ s.length := List.length_pos_iff.2 hne
  obtain ⟨z, hz⟩ := at_get (l := s) (i := 0) (by omega) (by omega)
  refine ⟨by omega, z, hz, fun h => no fun q => q.2.2.1 ?_, fun h => ⟨by omega, ?_⟩⟩
  · have : z = 48 := (byte_eq (n := 48) (by decide)).1 (by simpa using h)
    rw [← this]; exact hz
  have h48 : s[0]? ≠ some 48 := fun e => h (by
    have e' : s[(0 : Int).toNat]? = some 48 := e
    rw [hz] at e'; cases e'; rfl)
  refine ok_iter (I := fun t => 0 ≤ t.2 ∧ t.2 ≤ s.length ∧ (∀ b ∈ s.take t.2.toNat, dig b) ∧ t.1 = val (s.take t.2.toNat)) (μ := fun t => (s.length - t.2).toNat) ?_ ⟨by simp, by simp, by simp, by simp [val]⟩
  rintro ⟨n, i⟩ ⟨i0, i1, i2, i3⟩
  dsimp only at i0 i1 i2 i3 ⊢
  have hb := val_bound i2
  have hp := pow7 (n := (s.take i.toNat).length) (by rw [List.length_take]; omega)
  simp only [ok_jn, ok_if, ok_up, ok_bd, ok_gd, ok_lt, ok_go, ok_some, ok_at, wrap_b]
  refine ⟨fun hi => ?_, fun hi => ?_⟩
  · obtain ⟨b, hb'⟩ := at_get (l := s) i0 hi
    have hmem : b ∈ s := List.mem_of_getElem? hb'
    refine ⟨i0, b, hb', fun h1 => ⟨fun _ => no fun q => by have := (q.2.2.2.1 b hmem).1; omega, fun h => absurd trivial h⟩, fun h1 => ⟨fun h2 => no fun q => by have := (q.2.2.2.1 b hmem).2; simp at h2; omega, fun h2 => ?_⟩⟩
    simp at h2
    refine ⟨⟨by omega, by omega⟩, ⟨by omega, by omega⟩, ⟨by omega, by omega⟩, ⟨by omega, by omega⟩, ⟨by omega, by omega, fun x hx => ?_, ?_⟩, by omega⟩
    · rw [take_snoc i0 hb'] at hx
      rcases List.mem_append.1 hx with q | q
      · exact i2 x q
      · rw [List.mem_singleton.1 q]; exact ⟨by omega, by omega⟩
    · rw [take_snoc i0 hb', val_snoc, i3]
  · have e : s.take i.toNat = s := by rw [show i.toNat = s.length by omega, List.take_length]
    rw [e] at i2 i3
    refine ⟨?_, fun _ => i3⟩
    simp only [decide_eq_true_eq]
    exact ⟨fun q => ⟨hl, by omega, h48, i2, by omega⟩, fun q => by have := q.2.2.2.2; omega⟩
theorem rnumber_ok (s : List UInt8) : Ok (Sh.rectoref17_Number s) fun r => (numOk s → r = val s) ∧ (r < 1 ↔ ¬ numOk s) := by
  unfold Sh.rectoref17_Number
  simp only [ok_jn, ok_if, ok_bd, ok_some, ok_at]
  have no : ∀ r : Int, r < 1 → ¬ numOk s → (numOk s → r = val s) ∧ (r < 1 ↔ ¬ numOk s) := fun r hr h => ⟨fun q => absurd q h, ⟨fun _ => h, fun _ => hr⟩⟩
  have body : 1 ≤ s.length → s.length ≤ 7 → (1 < s.length → s[0]? ≠ some 48) → Ok (iter (fun ((n3_4, i4_5) : Int × Int) =>
      if i4_5 < (s.length : Int) then (jn (fun (x38_6 : Bool) =>
      if x38_6 = true then (up (some (-1)))
      else (gd (I64 (10 * n3_4)) (
      (at_ s i4_5).bind (fun z43_10 =>
      gd (0 ≤ (z43_10.toNat : Int) - 48 ∧ (z43_10.toNat : Int) - 48 ≤ 255) (
      gd (I64 ((10 * n3_4) + (IntKind.wrap .i64 ((z43_10.toNat : Int) - 48)))) (
      gd (I64 (i4_5 + 1)) (
      go (((10 * n3_4) + (IntKind.wrap .i64 ((z43_10.toNat : Int) - 48))), (i4_5 + 1))))))))) (fun k7 => (at_ s i4_5).bind (fun z31_8 =>
      if (z31_8.toNat : Int) < 48 then (k7 true)
      else ((at_ s i4_5).bind (fun z36_9 =>
      k7 (decide (57 < (z36_9.toNat : Int))))))))
      else (up (if 1000000 < n3_4 then (some (-1))
      else (some n3_4)))) (0, 0)) fun r => (numOk s → r = val s) ∧ (r < 1 ↔ ¬ numOk s) := fun hl h7 h48 => by
    refine ok_iter (I := fun t => 0 ≤ t.2 ∧ t.2 ≤ s.length ∧ (∀ b ∈ s.take t.2.toNat, dig b) ∧ t.1 = val (s.take t.2.toNat)) (μ := fun t => (s.length - t.2).toNat) ?_ ⟨by simp, by simp, by simp, by simp [val]⟩
    rintro ⟨n, i⟩ ⟨i0, i1, i2, i3⟩
    dsimp only at i0 i1 i2 i3 ⊢
    have hb := val_bound i2
    have hp := pow7 (n := (s.take i.toNat).length) (by rw [List.length_take]; omega)
    simp only [ok_jn, ok_if, ok_up, ok_bd, ok_gd, ok_lt, ok_go, ok_some, ok_at, wrap_b]
    refine ⟨fun hi => ?_, fun hi => ?_⟩
    · obtain ⟨b, hb'⟩ := at_get (l := s) i0 hi
      have hmem : b ∈ s := List.mem_of_getElem? hb'
      refine ⟨i0, b, hb', fun h1 => ⟨fun _ => no _ (by omega) fun q => by have := (q.2.2.2.1 b hmem).1; omega, fun h => absurd trivial h⟩, fun h1 => ⟨i0, b, hb', fun h2 => no _ (by omega) fun q => by have := (q.2.2.2.1 b hmem).2; simp at h2; omega, fun h2 => ?_⟩⟩
      simp at h2
      refine ⟨⟨by omega, by omega⟩, i0, b, hb', ⟨by omega, by omega⟩, ⟨by omega, by omega⟩, ⟨by omega, by omega⟩, ⟨by omega, by omega, fun x hx => ?_, ?_⟩, by omega⟩
      · rw [take_snoc i0 hb'] at hx
        rcases List.mem_append.1 hx with q | q
        · exact i2 x q
        · rw [List.mem_singleton.1 q]; exact ⟨by omega, by omega⟩
      · rw [take_snoc i0 hb', val_snoc, i3]
    · have e : s.take i.toNat = s := by rw [show i.toNat = s.length by omega, List.take_length]
      rw [e] at i2 i3
      refine ⟨fun hm => no _ (by omega) fun q => by have := q.2.2.2.2; omega, fun hm => ⟨fun _ => i3, ?_⟩⟩
      by_cases h0 : s[0]? = some 48
      · have h1 : s.length = 1 := by
          rcases Nat.lt_or_ge 1 s.length with q | q
          · exact absurd h0 (h48 q)
          · omega
        have hv : val s = 0 := by
          match s, h1, h0 with
          | [x], _, h0 => simp at h0; subst h0; rfl
        rw [i3, hv]
        exact ⟨fun _ q => q.2.2.1 h0, fun _ => by omega⟩
      · have := val_pos i2 h0 hl
        exact ⟨fun q => by omega, fun q => absurd ⟨hl, h7, h0, i2, by omega⟩ q⟩
  refine ⟨fun h => ⟨fun _ => no _ (by omega) fun q => by have := q.1; omega, fun h => absurd trivial h⟩, fun h1 => ⟨fun h => ⟨fun _ => no _ (by omega) fun q => by have := q.2.1; omega, fun h => absurd trivial h⟩, fun h7 => ⟨fun h2 => ?_, fun h2 => ⟨fun h => by simp at h, fun _ => body (by omega) (by omega) fun h => by omega⟩⟩⟩⟩
  obtain ⟨z, hz⟩ := at_get (l := s) (i := 0) (by omega) (by omega)
  refine ⟨by omega, z, hz, fun h => no _ (by omega) fun q => q.2.2.1 ?_, fun h => body (by omega) (by omega) fun _ e => h ?_⟩
  · have : z = 48 := (byte_eq (n := 48) (by decide)).1 (by simpa using h)
    rw [← this]; exact hz
  · have e' : s[(0 : Int).toNat]? = some 48 := e
    rw [hz] at e'; cases e'; rfl
end Go.S
end

section
namespace Go.S
open Go
theorem known21 : Sh.rectolaw21_known = some true := by decide +kernel
end Go.S
end

section
namespace Go.S
open Go
def rewordW : List UInt8 := [114, 101, 119, 111, 114, 100]
theorem isV_re : isV [114, 101, 119, 111, 114, 100] = true := by decide
/-- a line as a step, or why it is none -/
def stepS (x : List UInt8) : TodoStep × Int :=
  if trL (rs x) = [] then (⟨[], 0, []⟩, 2)
  else if isV (wd x) = false then (⟨[], 0, []⟩, 5)
  else if ¬ numOk (wd (trL (rs x))) then (⟨[], 0, []⟩, 1)
  else if wd x = rewordW then
    if (rs (trL (rs x))).length < 2 then (⟨[], 0, []⟩, 2)
    else if 257 < (rs (trL (rs x))).length then (⟨[], 0, []⟩, 4)
    else (⟨wd x, val (wd (trL (rs x))), (rs (trL (rs x))).drop 1⟩, 0)
  else if trL (rs (trL (rs x))) = [] then (⟨wd x, val (wd (trL (rs x))), []⟩, 0)
  else (⟨[], 0, []⟩, 2)
theorem wd_no : ∀ {s : List UInt8}, 32 ∉ s → wd s = s ∧ rs s = []
  | [], _ => ⟨rfl, rfl⟩
  | x :: r, h => by
    have hx : x ≠ 32 := fun e => h (by simp [e])
    obtain ⟨h1, h2⟩ := wd_no (s := r) fun e => h (List.mem_cons_of_mem _ e)
    unfold wd rs at *
    rw [List.takeWhile_cons, List.dropWhile_cons]
    simp [hx, h1, h2]
theorem wd_at : ∀ {a : List UInt8} (b : List UInt8), 32 ∉ a → wd (a ++ 32 :: b) = a ∧ rs (a ++ 32 :: b) = 32 :: b
  | [], b, _ => by simp [wd, rs]
  | x :: r, b, h => by
    have hx : x ≠ 32 := fun e => h (by simp [e])
    obtain ⟨h1, h2⟩ := wd_at (a := r) b fun e => h (List.mem_cons_of_mem _ e)
    unfold wd rs at *
    rw [List.cons_append, List.takeWhile_cons, List.dropWhile_cons]
    simp [hx, h1, h2]
theorem cut_ok {s : List UInt8} (hs : s.length ≤ 1000000) : Sh.todo_cut s = some (wd s, trL (rs s)) := by
  apply Ok.eq
  unfold Sh.todo_cut
  rw [sindex_ok, Option.bind_some]
  by_cases h : (32 : UInt8) ∈ s
  · obtain ⟨a, b, e, ha⟩ := split_mem h
    subst e
    obtain ⟨h1, h2⟩ := wd_at b ha
    have hl : (a ++ 32 :: b).length = a.length + b.length + 1 := by simp; omega
    rw [ix_at b ha, h1, h2]
    simp only [ok_if, ok_gd, ok_lt, ok_bd, ok_some]
    refine ⟨fun h => by omega, fun _ => ⟨⟨by omega, by omega⟩, ⟨by omega, by omega⟩, Ok.of (trimL_ok _) ?_⟩⟩
    simp
  · obtain ⟨h1, h2⟩ := wd_no h
    rw [ix_no h, h1, h2, if_pos (by decide), ok_some]
    rfl
theorem scut_ok {s : List UInt8} (hs : s.length ≤ 1000000) : Sh.strings_Cut s [32] = some (wd s, (rs s).drop 1, decide (rs s ≠ [])) := by
  apply Ok.eq
  unfold Sh.strings_Cut Sh.internal_stringslite_Cut
  rw [index_ok, Option.bind_some]
  by_cases h : (32 : UInt8) ∈ s
  · obtain ⟨a, b, e, ha⟩ := split_mem h
    subst e
    obtain ⟨h1, h2⟩ := wd_at b ha
    have hl : (a ++ 32 :: b).length = a.length + b.length + 1 := by simp; omega
    rw [ix_at b ha, h1, h2]
    simp only [ok_if, ok_gd, ok_lt, ok_bd, ok_some]
    refine ⟨fun _ => ⟨⟨by omega, by omega⟩, ⟨by simp; omega, by simp; omega⟩, ⟨by simp; omega, by simp; omega⟩, ?_⟩, fun h => by omega⟩
    simp only [List.length_cons, List.length_nil]
    rw [show ((a.length : Int) + ((0 + 1 : Nat) : Int)).toNat = a.length + 1 by omega]
    simp
  · obtain ⟨h1, h2⟩ := wd_no h
    rw [ix_no h, h1, h2, if_neg (by decide), ok_bd, ok_some, ok_some]
    rfl
theorem trL_drop1 (s : List UInt8) : trL ((rs s).drop 1) = trL (rs s) := by
  by_cases h : (32 : UInt8) ∈ s
  · obtain ⟨a, b, e, ha⟩ := split_mem h
    subst e
    rw [(wd_at b ha).2]; simp [trL]
  · rw [(wd_no h).2]; rfl
theorem line_ok {x : List UInt8} (hs : x.length ≤ 1000000) : Sh.todo_line x = some (stepS x) := by
  apply Ok.eq
  unfold Sh.todo_line
  have l1 := rs_len x
  have l2 := trL_len (rs x)
  have l3 := rs_len (trL (rs x))
  rw [cut_ok hs, Option.bind_some, ok_bd]
  refine (trim_ok (by dsimp only; omega)).mono fun t ht => ?_
  dsimp only at ht ⊢
  rw [trL_idem] at ht
  obtain ⟨vb, hv⟩ := verb_ok (wd x)
  simp only [ok_if, ok_bd, ok_some, hv, scut_ok (s := trL (rs x)) (by omega)]
  refine ⟨fun h => ?_, fun h => ⟨fun h1 => ?_, fun h1 => ?_⟩⟩
  · simp [stepS, ht.1 h]
  · have : isV (wd x) = false := by simpa using h1
    simp [stepS, mt ht.2 h, this]
  · have hV : ¬ isV (wd x) = false := by simpa using h1
    have hT := mt ht.2 h
    refine (number_ok _).mono fun n hn => ⟨fun h2 => ?_, fun h2 => ?_⟩
    · have : ¬ numOk (wd (trL (rs x))) := fun q => by have := hn.1.2 q; simp [this] at h2
      simp [stepS, hT, hV, this]
    · have hN : numOk (wd (trL (rs x))) := hn.1.1 (by simpa using h2)
      have hval := hn.2 hN
      simp only [ok_jn, ok_if, ok_bd, ok_some, decide_eq_true_eq]
      refine ⟨fun hr => ?_, fun hr => ?_⟩
      · refine ⟨fun he => ⟨fun _ => ?_, fun q => absurd trivial q⟩, fun he => ⟨fun hd => ?_, fun hd => ⟨fun hm => ?_, fun hm => ?_⟩⟩⟩
        · have : rs (trL (rs x)) = [] := by simpa using he
          simp [stepS, hT, hV, isV_re, hN, rewordW, hr, this]
        · have hd' : (rs (trL (rs x))).length < 2 := by have := congrArg List.length hd; simp at this; omega
          simp [stepS, hT, hV, isV_re, hN, rewordW, hr, hd']
        · have hd' : ¬ (rs (trL (rs x))).length < 2 := fun q => hd (List.drop_eq_nil_of_le (by omega))
          have hm' : 257 < (rs (trL (rs x))).length := by simp at hm; omega
          simp [stepS, hT, hV, isV_re, hN, rewordW, hr, hd', hm']
        · have hd' : ¬ (rs (trL (rs x))).length < 2 := fun q => hd (List.drop_eq_nil_of_le (by omega))
          have hm' : ¬ 257 < (rs (trL (rs x))).length := by simp at hm; omega
          simp [stepS, hT, hV, isV_re, hN, rewordW, hr, hd', hm', hval]
      · refine (trim_ok (by simp; omega)).mono fun u hu => ?_
        rw [trL_drop1] at hu
        refine ⟨fun q => ?_, fun q => ?_⟩
        · have := hu.1 q
          simp [stepS, hT, hV, isV_re, hN, rewordW, hr, this, hval]
        · have := mt hu.2 q
          simp [stepS, hT, hV, isV_re, hN, rewordW, hr, this]
theorem rstep_ok {y : List UInt8} (hs : y.length ≤ 1000000) : Sh.rectoref17_step y = some (toR (stepS (trL y)).1, (stepS (trL y)).2) := by
  apply Ok.eq
  unfold Sh.rectoref17_step
  have l0 := trL_len y
  have l1 := rs_len (trL y)
  have l2 := trL_len (rs (trL y))
  have l3 := rs_len (trL (rs (trL y)))
  rw [word17_ok hs, Option.bind_some]
  dsimp only
  rw [word17_ok (by omega), Option.bind_some]
  generalize hx : trL y = x at *
  simp only [ok_if, ok_bd, ok_some, wd_nil]
  refine ⟨fun h => ?_, fun hT => (rverb_ok _).mono fun v hv => ⟨fun h1 => ?_, fun h1 => ?_⟩⟩
  · simp [stepS, h, toR]
  · simp [stepS, hT, hv.1 h1, toR]
  · have hV := mt hv.2 h1
    refine (rnumber_ok _).mono fun n hn => ⟨fun h2 => ?_, fun h2 => ?_⟩
    · simp [stepS, hT, hV, hn.2.1 h2, toR]
    · have hN : numOk (wd (trL (rs x))) := Classical.not_not.1 fun q => h2 (hn.2.2 q)
      have hval := hn.1 hN
      refine ⟨fun hr => ⟨fun hd => ?_, fun hd => ?_⟩, fun hr => ?_⟩
      · have hd' : (rs (trL (rs x))).length < 2 := by omega
        simp [stepS, hT, hV, isV_re, hN, rewordW, hr, hd', toR]
      · have hd' : ¬ (rs (trL (rs x))).length < 2 := by omega
        simp only [ok_gd, ok_if, ok_lt, ok_some]
        refine ⟨⟨by omega, by omega⟩, fun hm => ?_, fun hm => ⟨⟨by omega, by omega⟩, ?_⟩⟩
        · have hm' : 257 < (rs (trL (rs x))).length := by omega
          simp [stepS, hT, hV, isV_re, hN, rewordW, hr, hd', hm', toR]
        · have hm' : ¬ 257 < (rs (trL (rs x))).length := by omega
          simp [stepS, hT, hV, isV_re, hN, rewordW, hr, hd', hm', hval, toR]
      · rw [blank_ok (by omega)]
        simp only [ok_some, ok_if]
        refine ⟨fun q => ?_, fun q => ?_⟩
        · have : ¬ trL (rs (trL (rs x))) = [] := by simpa using q
          simp [stepS, hT, hV, isV_re, hN, rewordW, hr, this, toR]
        · have : trL (rs (trL (rs x))) = [] := by simpa using q
          simp [stepS, hT, hV, isV_re, hN, rewordW, hr, this, hval, toR]
theorem stepS_err (x : List UInt8) : (stepS x).2 = 0 ∨ (1 ≤ (stepS x).2 ∧ (stepS x).2 ≤ 5) := by
  unfold stepS
  repeat' split
  all_goals simp
end Go.S
end

section
namespace Go.S
open Go
def lineW : List UInt8 := [108, 105, 110, 101]
/-- lines as steps, from one on; or which is none, and why -/
def pS : Int → List TodoStep → List (List UInt8) → List TodoStep × Option (Int × Int)
  | _, out, [] => (out, none)
  | i, out, y :: r =>
    if trL y = [] ∨ (trL y)[0]? = some 35 then pS (i + 1) out r
    else if (stepS (trL y)).2 ≠ 0 then ([], some (i, (stepS (trL y)).2))
    else if out.length = 32 then ([], some (32, 4))
    else pS (i + 1) (out ++ [(stepS (trL y)).1]) r
def errS : Option (Int × Int) → Err
  | none => .nil
  | some (i, e) => .fault lineW i (.no e)
def wrongS : Option (Int × Int) → Rectoref3WrongP
  | none => ⟨[], 0⟩
  | some (i, e) => ⟨[⟨lineW, i⟩], e⟩
theorem pS_err : ∀ (l : List (List UInt8)) (i : Int) (out : List TodoStep) (a e : Int), 0 ≤ i → (pS i out l).2 = some (a, e) → 0 ≤ a ∧ a ≤ i + l.length + 32 ∧ 1 ≤ e ∧ e ≤ 5
  | [], i, out, a, e, _, h => by simp [pS] at h
  | y :: r, i, out, a, e, h, hq => by
    unfold pS at hq
    simp only [List.length_cons]
    split at hq
    · have := pS_err r (i + 1) out a e (by omega) hq
      omega
    · split at hq
      · next h2 =>
        have := stepS_err (trL y)
        simp at hq
        rcases this with q | q
        · exact absurd q h2
        · omega
      · split at hq
        · simp at hq; omega
        · have := pS_err r (i + 1) (out ++ [(stepS (trL y)).1]) a e (by omega) hq
          omega
theorem pS_len : ∀ (l : List (List UInt8)) (i : Int) (out : List TodoStep), (pS i out l).1.length ≤ out.length + l.length
  | [], i, out => by simp [pS]
  | y :: r, i, out => by
    unfold pS
    have h1 := pS_len r (i + 1) out
    have h2 := pS_len r (i + 1) (out ++ [(stepS (trL y)).1])
    rw [List.length_append] at h2
    simp only [List.length_cons, List.length_nil] at h2 ⊢
    split
    · omega
    · split
      · simp
      · split
        · simp
        · omega
def parseS (s : List UInt8) : List TodoStep × Option (Int × Int) := pS 0 [] (spl 10 s)
theorem parse_ok {s : List UInt8} (hs : s.length ≤ 1000000) : Sh.todo_Parse s = some ((parseS s).1, errS (parseS s).2) := by
  apply Ok.eq
  unfold Sh.todo_Parse parseS
  rw [split_ok 10 (by omega), Option.bind_some]
  have hpart := spl_part 10 s
  have hlen := spl_len 10 s
  have hcnt : s.count 10 ≤ s.length := List.count_le_length
  generalize spl 10 s = L at *
  refine ok_iter (I := fun t => 0 ≤ t.2 ∧ t.2 ≤ L.length ∧ pS t.2 t.1 (L.drop t.2.toNat) = pS 0 [] L ∧ t.1.length ≤ t.2) (μ := fun t => (L.length - t.2).toNat) ?_ ⟨by simp, by simp, by simp, by simp⟩
  rintro ⟨o, i⟩ ⟨i0, i1, i2, i3⟩
  dsimp only at i0 i1 i2 i3 ⊢
  simp only [ok_if, ok_up, ok_bd, ok_gd, ok_lt, ok_go, ok_some, ok_at]
  refine ⟨fun hi => ?_, fun hi => ?_⟩
  · obtain ⟨y, hy⟩ := at_get (l := L) i0 hi
    have hyl := hpart y (List.mem_of_getElem? hy)
    have hd := drop_cons i0 hy
    have htl := trL_len y
    rw [hd, pS] at i2
    refine ⟨i0, y, hy, Ok.of (trimL_ok y) ⟨fun h => ?_, fun h => ?_⟩⟩
    · rw [if_pos (.inl h)] at i2
      exact ⟨⟨by omega, by omega⟩, ⟨by omega, by omega, i2, by omega⟩, by omega⟩
    · obtain ⟨b, hb⟩ := at_get (l := trL y) (i := 0) (by omega) (by have := List.length_pos_iff.2 h; omega)
      have hb' : (trL y)[0]? = some b := hb
      refine ⟨by omega, b, hb, fun h35 => ?_, fun h35 => ?_⟩
      · have : b = 35 := (byte_eq (n := 35) (by decide)).1 h35
        rw [if_pos (.inr (by rw [hb', this]))] at i2
        exact ⟨⟨by omega, by omega⟩, ⟨by omega, by omega, i2, by omega⟩, by omega⟩
      · have hn : ¬ (trL y = [] ∨ (trL y)[0]? = some 35) := fun q => q.elim h fun e => h35 (by rw [hb'] at e; cases e; rfl)
        rw [if_neg hn] at i2
        refine Ok.of (line_ok (by omega)) ⟨fun he => ⟨fun h32 => ?_, fun h32 => ?_⟩, fun he => ?_⟩
        · rw [if_neg (by simpa using he), if_pos (by omega)] at i2
          rw [← i2]; rfl
        · rw [if_neg (by simpa using he), if_neg (by omega)] at i2
          refine ⟨by simp; omega, ⟨by omega, by omega⟩, ⟨by omega, by omega, i2, by simp; omega⟩, by omega⟩
        · rw [if_pos he] at i2
          rw [← i2]; rfl
  · rw [List.drop_eq_nil_of_le (by omega), pS] at i2
    rw [clip_step, ok_some, ← i2]; rfl
theorem rparse_ok {s : List UInt8} (hs : s.length ≤ 1000000) : Sh.rectoref17_Parse s = some ((parseS s).1.map toR, wrongS (parseS s).2) := by
  apply Ok.eq
  unfold Sh.rectoref17_Parse parseS
  rw [lines_ok hs, Option.bind_some]
  have hpart := spl_part 10 s
  have hlen := spl_len 10 s
  have hcnt : s.count 10 ≤ s.length := List.count_le_length
  generalize spl 10 s = L at *
  refine ok_iter (I := fun t => 0 ≤ t.2 ∧ t.2 ≤ L.length ∧ ∃ o : List TodoStep, t.1 = o.map toR ∧ pS t.2 o (L.drop t.2.toNat) = pS 0 [] L ∧ o.length ≤ t.2) (μ := fun t => (L.length - t.2).toNat) ?_ ⟨by simp, by simp, [], by simp, by simp, by simp⟩
  rintro ⟨o', i⟩ ⟨i0, i1, o, ho, i2, i3⟩
  dsimp only at i0 i1 i2 i3 ho ⊢
  subst ho
  simp only [ok_jn, ok_if, ok_up, ok_bd, ok_gd, ok_lt, ok_go, ok_some, ok_at]
  refine ⟨fun hi => ?_, fun hi => ?_⟩
  · obtain ⟨y, hy⟩ := at_get (l := L) i0 hi
    have hyl := hpart y (List.mem_of_getElem? hy)
    have hd := drop_cons i0 hy
    have htl := trL_len y
    rw [hd, pS] at i2
    refine ⟨i0, y, hy, Ok.of (word17_ok (by omega)) ⟨fun h => ?_, fun h => ?_⟩⟩
    · rw [if_pos (.inl (wd_nil.1 h))] at i2
      exact ⟨⟨by omega, by omega⟩, ⟨by omega, by omega, o, rfl, i2, by omega⟩, by omega⟩
    · have h' : trL y ≠ [] := fun e => h (wd_nil.2 e)
      obtain ⟨b, r, hq⟩ := List.exists_cons_of_ne_nil h'
      have hb32 := trL_head hq
      have hw : wd (trL y) = b :: wd r := by rw [hq, wd, List.takeWhile_cons]; simp [hb32, wd]
      rw [hw]
      refine ⟨by omega, b, rfl, fun h35 => ?_, fun h35 => ?_⟩
      · have : b = 35 := (byte_eq (n := 35) (by decide)).1 h35
        rw [if_pos (.inr (by rw [hq, this]; rfl))] at i2
        exact ⟨⟨by omega, by omega⟩, ⟨by omega, by omega, o, rfl, i2, by omega⟩, by omega⟩
      · have hn : ¬ (trL y = [] ∨ (trL y)[0]? = some 35) := fun q => q.elim h' fun e => h35 (by rw [hq] at e; simp at e; rw [e]; rfl)
        rw [if_neg hn] at i2
        refine ⟨i0, y, hy, Ok.of (rstep_ok (by omega)) ⟨fun he => ⟨fun h32 => ?_, fun h32 => ?_⟩, fun he => ?_⟩⟩
        · simp only [List.length_map] at h32
          rw [if_neg (by simpa using he), if_pos (by omega)] at i2
          rw [← i2]; unfold Sh.rectoref3_At; simp [ok_lt, ok_some, wrongS, lineW]
        · simp only [List.length_map] at h32
          rw [if_neg (by simpa using he), if_neg (by omega)] at i2
          refine ⟨by simp; omega, ⟨by omega, by omega⟩, ⟨by omega, by omega, _, ?_, i2, by simp; omega⟩, by omega⟩
          simp [toR]
        · rw [if_pos he] at i2
          rw [← i2]; unfold Sh.rectoref3_At; simp [ok_lt, ok_some, wrongS, lineW]
  · rw [List.drop_eq_nil_of_le (by omega), pS] at i2
    rw [← i2]; rfl
theorem todoTexts_ok (s : List UInt8) : Sh.rectolaw21_TodoTexts s = some true := by
  apply Ok.eq
  unfold Sh.rectolaw21_TodoTexts
  rw [known21, Option.bind_some]
  simp only [ok_if, ok_bd, ok_some]
  refine ⟨fun h => by simp at h, fun _ => ⟨fun _ => trivial, fun hn => Ok.of (parse_ok (by omega)) (Ok.of (rparse_ok (by omega)) ?_)⟩⟩
  have ht : Sh.rectolaw2_Tells (errS (parseS s).2) (wrongS (parseS s).2) = some true := by
    have hlen := spl_len 10 s
    have hcnt : s.count 10 ≤ s.length := List.count_le_length
    unfold parseS
    cases hq : (pS 0 [] (spl 10 s)).2 with
    | none => exact tells_none []
    | some q =>
      obtain ⟨a, e⟩ := q
      have := pS_err (spl 10 s) 0 [] a e (by omega) hq
      exact tells_at (by decide) (by omega) (by omega) (by omega) (by omega)
  have hl := pS_len (spl 10 s) 0 []
  have hlen := spl_len 10 s
  have hcnt : s.count 10 ≤ s.length := List.count_le_length
  refine Ok.of ht ⟨fun _ => Ok.of (same21_ok (by unfold parseS; dsimp only; simp at hl; omega)) rfl, fun h => absurd rfl h⟩
end Go.S
end

section
namespace Go.S
open Go
def stepW : List UInt8 := [115, 116, 101, 112]
def dropW : List UInt8 := [100, 114, 111, 112]
def squashW : List UInt8 := [115, 113, 117, 97, 115, 104]
def fixupW : List UInt8 := [102, 105, 120, 117, 112]
/-- what is wrong with a step -/
def cE (g : List (List Int)) (first : Bool) (x : TodoStep) : Int :=
  if isV x.verb = false then 5
  else if x.commit < 1 ∨ (g.length : Int) < x.commit ∨ 1 < ((g[(x.commit - 1).toNat]?).getD []).length then 1
  else if first = true ∧ (x.verb = squashW ∨ x.verb = fixupW) then 7
  else 0
def cS (g : List (List Int)) : Int → Bool → List TodoStep → Option (Int × Int)
  | _, _, [] => none
  | i, f, x :: r => if cE g f x ≠ 0 then some (i, cE g f x) else cS g (i + 1) (f && decide (x.verb = dropW)) r
def checkS (l : List TodoStep) (g : List (List Int)) : Option (Int × Int) := if 32 < l.length then some (32, 4) else cS g 0 true l
def errC : Option (Int × Int) → Err
  | none => .nil
  | some (i, e) => .fault stepW i (.no e)
def wrongC : Option (Int × Int) → Rectoref3WrongP
  | none => ⟨[], 0⟩
  | some (i, e) => ⟨[⟨stepW, i⟩], e⟩
theorem cE_rng (g : List (List Int)) (f : Bool) (x : TodoStep) : cE g f x = 0 ∨ (1 ≤ cE g f x ∧ cE g f x ≤ 7) := by
  unfold cE
  repeat' split
  all_goals simp
theorem cS_err (g : List (List Int)) : ∀ (l : List TodoStep) (i : Int) (f : Bool) (a e : Int), 0 ≤ i → cS g i f l = some (a, e) → 0 ≤ a ∧ a ≤ i + l.length ∧ 1 ≤ e ∧ e ≤ 7
  | [], i, f, a, e, _, h => by cases h
  | x :: r, i, f, a, e, h, hq => by
    unfold cS at hq
    simp only [List.length_cons]
    split at hq
    · next h2 =>
      have := cE_rng g f x
      simp at hq
      rcases this with q | q
      · exact absurd q h2
      · omega
    · have := cS_err g r (i + 1) _ a e (by omega) hq
      omega
theorem verb2_ok (s : List UInt8) : Sh.todo_verb s = some (isV s, decide (s = squashW ∨ s = fixupW)) := by
  unfold Sh.todo_verb isV verbsL squashW fixupW
  simp only [jn]
  by_cases h1 : s = [115, 113, 117, 97, 115, 104]
  · simp [h1]
  by_cases h2 : s = [102, 105, 120, 117, 112]
  · simp [h2]
  by_cases h3 : s = [112, 105, 99, 107]
  · simp [h3]
  by_cases h4 : s = [114, 101, 119, 111, 114, 100]
  · simp [h4]
  by_cases h5 : s = [101, 100, 105, 116]
  · simp [h5]
  by_cases h6 : s = [100, 114, 111, 112]
  · simp [h6]
  · simp [h1, h2, h3, h4, h5, h6]
theorem tstep_ok {g : List (List Int)} (hg : g.length ≤ 1000) (f : Bool) (x : TodoStep) : Sh.todo_step x g f = some (cE g f x) := by
  apply Ok.eq
  unfold Sh.todo_step cE
  rw [verb2_ok, Option.bind_some]
  simp only [ok_jn, ok_if, ok_gd, ok_bd, ok_some, ok_at]
  refine ⟨fun h => ?_, fun h => ?_⟩
  · rw [if_pos (by simpa using h)]
  have hV : ¬ isV x.verb = false := by simpa using h
  rw [if_neg hV]
  refine ⟨fun h1 => ⟨fun _ => by rw [if_pos (.inl h1)], fun q => absurd trivial q⟩, fun h1 => ⟨fun h2 => ⟨fun _ => by rw [if_pos (.inr (.inl h2))], fun q => absurd trivial q⟩, fun h2 => ?_⟩⟩
  obtain ⟨l, hl⟩ := at_get (l := g) (i := x.commit - 1) (by omega) (by omega)
  refine ⟨⟨by omega, by omega⟩, by omega, l, hl, fun h3 => ?_, fun h3 => ?_⟩
  · rw [if_pos (.inr (.inr (by rw [hl]; simp at h3 ⊢; omega)))]
  · have hno : ¬ (x.commit < 1 ∨ (g.length : Int) < x.commit ∨ 1 < ((g[(x.commit - 1).toNat]?).getD []).length) := by
      rw [hl]; simp at h3 ⊢; omega
    rw [if_neg hno]
    refine ⟨fun hb => ⟨fun hf => ?_, fun hf => ?_⟩, fun hb => ⟨fun q => (by cases q), fun _ => ?_⟩⟩
    · rw [if_pos ⟨hf, by simpa using hb⟩]
    · rw [if_neg fun q => hf q.1]
    · rw [if_neg fun q => hb (by simpa using q.2)]
theorem tcheck_ok {g : List (List Int)} {l : List TodoStep} (hg : g.length ≤ 1000) : Sh.todo_Check l g = some (errC (checkS l g)) := by
  apply Ok.eq
  unfold Sh.todo_Check checkS Sh.todo_fault
  simp only [ok_if, ok_bd, ok_some]
  refine ⟨fun h => by rw [if_pos (by omega)]; rfl, fun h => ?_⟩
  rw [if_neg (by omega)]
  refine ok_iter (I := fun t => 0 ≤ t.2 ∧ t.2 ≤ l.length ∧ cS g t.2 t.1 (l.drop t.2.toNat) = cS g 0 true l) (μ := fun t => (l.length - t.2).toNat) ?_ ⟨by simp, by simp, by simp⟩
  rintro ⟨f, i⟩ ⟨i0, i1, i2⟩
  dsimp only at i0 i1 i2 ⊢
  simp only [ok_if, ok_up, ok_bd, ok_gd, ok_lt, ok_go, ok_some, ok_at, tstep_ok hg]
  refine ⟨fun hi => ?_, fun hi => ?_⟩
  · obtain ⟨x, hx⟩ := at_get (l := l) i0 hi
    rw [drop_cons i0 hx, cS] at i2
    refine ⟨i0, x, hx, fun h0 => ⟨fun hf => ⟨⟨by omega, by omega⟩, ⟨by omega, by omega, ?_⟩, by omega⟩, fun hf => ⟨⟨by omega, by omega⟩, ⟨by omega, by omega, ?_⟩, by omega⟩⟩, fun h0 => ?_⟩
    · rw [if_neg (by simpa using h0), hf, Bool.true_and] at i2; exact i2
    · have hf' : f = false := by simpa using hf
      rw [if_neg (by simpa using h0), hf', Bool.false_and] at i2; exact i2
    · rw [if_pos h0] at i2
      rw [← i2]; rfl
  · rw [List.drop_eq_nil_of_le (by omega), cS] at i2
    rw [← i2]; rfl
theorem rcheck_ok {g : List (List Int)} {l : List TodoStep} (hg : g.length ≤ 1000) : Sh.rectoref17_CheckTodo (l.map toR) g = some (wrongC (checkS l g)) := by
  apply Ok.eq
  unfold Sh.rectoref17_CheckTodo checkS Sh.rectoref3_At
  simp only [ok_if, ok_bd, ok_lt, ok_some, List.length_map]
  refine ⟨fun h => by rw [if_pos (by omega)]; rfl, fun h => ?_⟩
  rw [if_neg (by omega)]
  refine ok_iter (I := fun t => 0 ≤ t.2 ∧ t.2 ≤ l.length ∧ cS g t.2 t.1 (l.drop t.2.toNat) = cS g 0 true l) (μ := fun t => (l.length - t.2).toNat) ?_ ⟨by simp, by simp, by simp⟩
  rintro ⟨f, i⟩ ⟨i0, i1, i2⟩
  dsimp only at i0 i1 i2 ⊢
  simp only [ok_jn, ok_if, ok_up, ok_bd, ok_gd, ok_lt, ok_go, ok_some, ok_at]
  refine ⟨fun hi => ?_, fun hi => ?_⟩
  · obtain ⟨x, hx⟩ := at_get (l := l) i0 hi
    have hx' : (l.map toR)[i.toNat]? = some (toR x) := by rw [List.getElem?_map, hx]; rfl
    rw [drop_cons i0 hx, cS] at i2
    refine ⟨i0, _, hx', (rverb_ok _).mono fun v hv0 => ?_⟩
    have hv : v < 0 ↔ isV x.verb = false := hv0
    refine ⟨fun h1 => ?_, fun h1 => ?_⟩
    · have hE : cE g f x = 5 := by unfold cE; rw [if_pos (hv.1 h1)]
      rw [hE, if_pos (by decide)] at i2
      rw [← i2]; rfl
    · have hV : ¬ isV x.verb = false := fun q => h1 (hv.2 q)
      have one : (x.commit < 1 ∨ (g.length : Int) < x.commit ∨ 1 < ((g[(x.commit - 1).toNat]?).getD []).length) → ({ parts := [{ word := [115, 116, 101, 112], at_ := i }], err := 1 } : Rectoref3WrongP) = wrongC (cS g 0 true l) := fun q => by
        have hE : cE g f x = 1 := by unfold cE; rw [if_neg hV, if_pos q]
        rw [hE, if_pos (by decide)] at i2
        rw [← i2]; rfl
      refine ⟨fun h2 => ⟨fun _ => one (.inl h2), fun q => absurd trivial q⟩, fun h2 => ⟨fun h3 => ⟨fun _ => one (.inr (.inl h3)), fun q => absurd trivial q⟩, fun h3 => ?_⟩⟩
      have h2' : ¬ x.commit < 1 := h2
      have h3' : ¬ (g.length : Int) < x.commit := h3
      obtain ⟨q, hq⟩ := at_get (l := g) (i := x.commit - 1) (by omega) (by omega)
      refine ⟨⟨by simp [toR]; omega, by simp [toR]; omega⟩, by simp [toR]; omega, q, hq, fun h4 => one (.inr (.inr (by rw [hq]; simp at h4 ⊢; omega))), fun h4 => ?_⟩
      have hno : ¬ (x.commit < 1 ∨ (g.length : Int) < x.commit ∨ 1 < ((g[(x.commit - 1).toNat]?).getD []).length) := by
        rw [hq]; simp at h4 ⊢; omega
      have seven : f = true → (x.verb = squashW ∨ x.verb = fixupW) → ({ parts := [{ word := [115, 116, 101, 112], at_ := i }], err := 7 } : Rectoref3WrongP) = wrongC (cS g 0 true l) := fun hf hb => by
        have hE : cE g f x = 7 := by unfold cE; rw [if_neg hV, if_neg hno, if_pos ⟨hf, hb⟩]
        rw [hE, if_pos (by decide)] at i2
        rw [← i2]; rfl
      have none_ : ¬ (f = true ∧ (x.verb = squashW ∨ x.verb = fixupW)) → cS g (i + 1) (f && decide (x.verb = dropW)) (l.drop (i + 1).toNat) = cS g 0 true l := fun q => by
        have hE : cE g f x = 0 := by unfold cE; rw [if_neg hV, if_neg hno, if_neg q]
        rw [hE, if_neg (by decide)] at i2
        exact i2
      have rest : ¬ (f = true ∧ (x.verb = squashW ∨ x.verb = fixupW)) → (f = true → I64 (i + 1) ∧ (0 ≤ i + 1 ∧ i + 1 ≤ (l.length : Int) ∧ cS g (i + 1) (decide (x.verb = dropW)) (l.drop (i + 1).toNat) = cS g 0 true l) ∧ ((l.length : Int) - (i + 1)).toNat < ((l.length : Int) - i).toNat) ∧
          (¬ f = true → I64 (i + 1) ∧ (0 ≤ i + 1 ∧ i + 1 ≤ (l.length : Int) ∧ cS g (i + 1) false (l.drop (i + 1).toNat) = cS g 0 true l) ∧ ((l.length : Int) - (i + 1)).toNat < ((l.length : Int) - i).toNat) := fun q => by
        have := none_ q
        refine ⟨fun hf => ⟨⟨by omega, by omega⟩, ⟨by omega, by omega, ?_⟩, by omega⟩, fun hf => ⟨⟨by omega, by omega⟩, ⟨by omega, by omega, ?_⟩, by omega⟩⟩
        · rw [hf, Bool.true_and] at this; exact this
        · have hf' : f = false := by simpa using hf
          rw [hf', Bool.false_and] at this; exact this
      refine ⟨fun hf => ⟨fun hs => ⟨fun _ => seven hf (.inl hs), fun q => absurd trivial q⟩, fun hs => ⟨fun hx' => seven hf (.inr (of_decide_eq_true hx')), fun hx' => ?_⟩⟩, fun hf => ⟨fun q => (by cases q), fun _ => ?_⟩⟩
      · exact rest fun q => q.2.elim hs fun e => hx' (decide_eq_true e)
      · exact rest fun q => hf q.1
  · rw [List.drop_eq_nil_of_le (by omega), cS] at i2
    rw [← i2]; rfl
theorem checkS_tells (l : List TodoStep) (g : List (List Int)) (hl : l.length ≤ 1000) : Sh.rectolaw2_Tells (errC (checkS l g)) (wrongC (checkS l g)) = some true := by
  unfold checkS
  split
  · exact tells_at (by decide) (by omega) (by omega) (by omega) (by omega)
  · cases hq : cS g 0 true l with
    | none => exact tells_none []
    | some q =>
      obtain ⟨a, e⟩ := q
      have := cS_err g l 0 true a e (by omega) hq
      exact tells_at (by decide) (by omega) (by omega) (by omega) (by omega)
theorem of21_ok {l : List TodoStep} (h : l.length ≤ 1000) : Sh.rectolaw21_Of l = some (l.map toR) := by
  apply Ok.eq
  unfold Sh.rectolaw21_Of
  refine ok_iter (I := fun t => 0 ≤ t.2 ∧ t.2 ≤ l.length ∧ t.1 = (l.take t.2.toNat).map toR) (μ := fun t => (l.length - t.2).toNat) ?_ ⟨by simp, by simp, by simp⟩
  rintro ⟨o, i⟩ ⟨i0, i1, i2⟩
  dsimp only at i0 i1 i2 ⊢
  simp only [ok_if, ok_up, ok_bd, ok_gd, ok_lt, ok_go, ok_some, ok_at]
  refine ⟨fun hi => ?_, fun hi => ?_⟩
  · obtain ⟨z, hz⟩ := at_get (l := l) i0 hi
    have hlen : o.length = i.toNat := by rw [i2, List.length_map, List.length_take]; omega
    refine ⟨i0, z, hz, i0, z, hz, i0, z, hz, by simp; omega, ⟨by omega, by omega⟩, ⟨by omega, by omega, ?_⟩, by omega⟩
    rw [take_snoc i0 hz, i2]; simp [toR]
  · rw [i2, show i.toNat = l.length by omega, List.take_length]
end Go.S
end

section
/- Plain laws on graphs: whether one may be. No program in sight. -/
namespace Go.S
open Go
/-- a graph that may be: parents are elder, two at most -/
def Gok (g : List (List Int)) : Prop := ∀ (i : Nat) l, g[i]? = some l → l.length ≤ 2 ∧ ∀ p ∈ l, 1 ≤ p ∧ p ≤ i
theorem check_ok (g : List (List Int)) : Ok (Sh.rectoref17_Check g) fun r => r = 0 → Gok g ∧ g.length ≤ 1024 := by
  unfold Sh.rectoref17_Check
  simp only [ok_if, ok_some]
  refine ⟨fun _ h => by omega, fun hn => ?_⟩
  refine ok_iter (I := fun i => 0 ≤ i ∧ i ≤ g.length ∧ ∀ (k : Nat) l, k < i → g[k]? = some l → l.length ≤ 2 ∧ ∀ p ∈ l, 1 ≤ p ∧ p ≤ k) (μ := fun i => (g.length - i).toNat) ?_ ⟨by omega, by omega, fun k l h => by omega⟩
  rintro i ⟨h0, h1, h2⟩
  simp only [ok_jn, ok_if, ok_up, ok_bd, ok_gd, ok_lt, ok_go, ok_some, ok_at]
  refine ⟨fun h => ?_, fun h _ => ⟨fun k l hl => h2 k l (by have := get_lt hl; omega) hl, by omega⟩⟩
  obtain ⟨l, hl⟩ := at_get (l := g) h0 h
  refine ⟨h0, l, hl, fun _ h => by omega, fun hl2 => ?_⟩
  refine ok_iter (I := fun j => 0 ≤ j ∧ j ≤ l.length ∧ ∀ p ∈ l.take j.toNat, 1 ≤ p ∧ p ≤ i) (μ := fun j => (l.length - j).toNat) ?_ ⟨by omega, by omega, fun p hp => by simp at hp⟩
  rintro j ⟨j0, j1, j2⟩
  simp only [ok_jn, ok_if, ok_up, ok_bd, ok_gd, ok_lt, ok_go, ok_some, ok_at]
  refine ⟨h0, l, hl, fun hj => ?_, fun hj => ?_⟩
  · obtain ⟨p, hp⟩ := at_get (l := l) j0 hj
    refine ⟨h0, l, hl, j0, p, hp, fun hp1 => ⟨fun _ h => by omega, fun h => absurd trivial h⟩, fun hp1 => ⟨h0, l, hl, j0, p, hp, fun hp2 => by simp, fun hp2 => ?_⟩⟩
    refine ⟨⟨by omega, by omega⟩, ⟨by omega, by omega, fun q hq => ?_⟩, by omega⟩
    rw [take_snoc j0 hp] at hq
    rcases List.mem_append.1 hq with q1 | q1
    · exact j2 q q1
    · cases List.mem_singleton.1 q1
      have : ¬ i < p := by simpa using hp2
      omega
  · have hj' : j.toNat = l.length := by omega
    rw [hj', List.take_length] at j2
    have next : ∀ (k : Nat) l', k < i + 1 → g[k]? = some l' → l'.length ≤ 2 ∧ ∀ p ∈ l', 1 ≤ p ∧ p ≤ k := fun k l' hk hl' => by
      by_cases e : k = i.toNat
      · subst e
        rw [hl] at hl'; cases hl'
        exact ⟨by omega, fun p hp => by have := j2 p hp; omega⟩
      · exact h2 k l' (by omega) hl'
    refine ⟨h0, l, hl, fun h2l => ?_, fun h2l => ?_⟩
    · obtain ⟨a, ha⟩ := at_get (l := l) (i := 0) (by omega) (by omega)
      obtain ⟨b, hb⟩ := at_get (l := l) (i := 1) (by omega) (by omega)
      refine ⟨h0, l, hl, by omega, a, ha, h0, l, hl, by omega, b, hb, fun _ h => by omega, fun _ => ⟨⟨by omega, by omega⟩, ⟨by omega, by omega, next⟩, by omega⟩⟩
    · simp only [Bool.false_eq_true, false_implies, not_false_eq_true, true_implies, true_and]
      exact ⟨⟨by omega, by omega⟩, ⟨by omega, by omega, next⟩, by omega⟩
end Go.S
end

section
namespace Go.S
open Go
/-- a step in words -/
def tailT (x : TodoStep) : List UInt8 := if x.verb = rewordW then 32 :: x.text else []
def lineT (x : TodoStep) : List UInt8 := x.verb ++ 32 :: (itoaS x.commit ++ tailT x)
def textS : List TodoStep → List UInt8
  | [] => []
  | x :: r => lineT x ++ 10 :: textS r
theorem textS_snoc (x : TodoStep) : ∀ l, textS (l ++ [x]) = textS l ++ (lineT x ++ [10])
  | [] => by simp [textS]
  | y :: l => by simp [textS, textS_snoc x l]
/-- small enough -/
def Sml (x : TodoStep) : Prop := x.verb.length ≤ 1000 ∧ x.text.length ≤ 1000 ∧ I64 x.commit
theorem lineT_len {x : TodoStep} (h : Sml x) : (lineT x).length ≤ 2100 := by
  obtain ⟨h1, h2, _⟩ := h
  have := itoaS_len x.commit
  unfold lineT tailT
  split <;> simp <;> omega
theorem textS_len : ∀ {l : List TodoStep}, (∀ x ∈ l, Sml x) → (textS l).length ≤ 2101 * l.length
  | [], _ => by simp [textS]
  | x :: r, h => by
    have := textS_len fun y hy => h y (List.mem_cons_of_mem _ hy)
    have := lineT_len (h x (List.mem_cons_self ..))
    simp [textS]; omega
theorem text_ok {l : List TodoStep} (hs : ∀ x ∈ l, Sml x) (hl : l.length ≤ 1000) : Sh.todo_Text l = some (textS l) := by
  apply Ok.eq
  unfold Sh.todo_Text
  refine ok_iter (I := fun t => 0 ≤ t.1 ∧ t.1 ≤ l.length ∧ t.2 = textS (l.take t.1.toNat)) (μ := fun t => (l.length - t.1).toNat) ?_ ⟨by simp, by simp, by simp [textS]⟩
  rintro ⟨i, a⟩ ⟨i0, i1, i2⟩
  dsimp only at i0 i1 i2 ⊢
  have hlen := textS_len (l := l.take i.toNat) fun x hx => hs x (List.mem_of_mem_take hx)
  rw [← i2, List.length_take] at hlen
  simp only [ok_if, ok_up, ok_bd, ok_gd, ok_lt, ok_go, ok_some, ok_at]
  refine ⟨fun hi => ?_, fun hi => ?_⟩
  · obtain ⟨x, hx⟩ := at_get (l := l) i0 hi
    obtain ⟨s1, s2, s3⟩ := hs x (List.mem_of_getElem? hx)
    have := itoaS_len x.commit
    refine ⟨i0, x, hx, by simp; omega, s3, by simp; omega, by simp; omega, fun hr => ?_, fun hr => ?_⟩
    · refine ⟨by simp; omega, by simp; omega, by simp; omega, ⟨by omega, by omega⟩, ⟨by omega, by omega, ?_⟩, by omega⟩
      rw [take_snoc i0 hx, textS_snoc, i2]; simp [lineT, tailT, rewordW, hr]
    · refine ⟨by simp; omega, ⟨by omega, by omega⟩, ⟨by omega, by omega, ?_⟩, by omega⟩
      rw [take_snoc i0 hx, textS_snoc, i2]; simp [lineT, tailT, rewordW, hr]
  · rw [i2, show i.toNat = l.length by omega, List.take_length]
theorem rtext_ok {l : List TodoStep} (hs : ∀ x ∈ l, Sml x) (hl : l.length ≤ 1000) : Sh.rectoref17_Text (l.map toR) = some (textS l) := by
  apply Ok.eq
  unfold Sh.rectoref17_Text
  refine ok_iter (I := fun t => 0 ≤ t.2 ∧ t.2 ≤ l.length ∧ t.1 = textS (l.take t.2.toNat)) (μ := fun t => (l.length - t.2).toNat) ?_ ⟨by simp, by simp, by simp [textS]⟩
  rintro ⟨a, i⟩ ⟨i0, i1, i2⟩
  dsimp only at i0 i1 i2 ⊢
  have hlen := textS_len (l := l.take i.toNat) fun x hx => hs x (List.mem_of_mem_take hx)
  rw [← i2, List.length_take] at hlen
  simp only [ok_jn, ok_if, ok_up, ok_bd, ok_gd, ok_lt, ok_go, ok_some, ok_at, List.length_map]
  refine ⟨fun hi => ?_, fun hi => ?_⟩
  · obtain ⟨x, hx⟩ := at_get (l := l) i0 hi
    obtain ⟨s1, s2, s3⟩ := hs x (List.mem_of_getElem? hx)
    have := itoaS_len x.commit
    have hx' : (l.map toR)[i.toNat]? = some (toR x) := by rw [List.getElem?_map, hx]; rfl
    have t1 : (toR x).verb = x.verb := rfl
    have t2 : (toR x).text = x.text := rfl
    have t3 : (itoaS (toR x).commit).length ≤ 21 := itoaS_len _
    have t4 : (toR x).commit = x.commit := rfl
    refine ⟨i0, _, hx', by rw [t1]; omega, by rw [t1]; simp; omega, i0, _, hx', Ok.of (decimal_all s3) ⟨by rw [t1]; simp; omega, i0, _, hx', fun hr => ?_, fun hr => ?_⟩⟩
    · rw [t1] at hr
      refine ⟨by rw [t1]; simp; omega, i0, _, hx', by rw [t1, t2]; simp; omega, by rw [t1, t2]; simp; omega, ⟨by omega, by omega⟩, ⟨by omega, by omega, ?_⟩, by omega⟩
      rw [take_snoc i0 hx, textS_snoc, i2, t1, t2, t4]; simp [lineT, tailT, rewordW, hr]
    · rw [t1] at hr
      refine ⟨by rw [t1]; simp; omega, ⟨by omega, by omega⟩, ⟨by omega, by omega, ?_⟩, by omega⟩
      rw [take_snoc i0 hx, textS_snoc, i2, t1, t4]; simp [lineT, tailT, rewordW, hr]
  · rw [i2, show i.toNat = l.length by omega, List.take_length]
/-- digits are so -/
theorem d48 {k : Nat} (h : k < 10) : ((UInt8.ofNat (48 + k)).toNat : Int) = 48 + k := by
  simp [UInt8.toNat_ofNat']; omega
theorem dec_facts (u : Nat) (h : 1 ≤ u) : (∀ b ∈ Lib.decDigits u, dig b) ∧ val (Lib.decDigits u) = u ∧ (Lib.decDigits u)[0]? ≠ some 48 ∧ 1 ≤ (Lib.decDigits u).length := by
  induction u using Nat.strongRecOn with
  | _ u ih =>
    rw [Lib.decDigits]
    by_cases h10 : u < 10
    · rw [dif_pos h10]
      have := d48 h10
      refine ⟨fun b hb => ?_, ?_, ?_, by simp⟩
      · rw [List.mem_singleton.1 hb]; exact ⟨by omega, by omega⟩
      · simp only [val, List.foldl_cons, List.foldl_nil]; omega
      · intro e
        simp only [List.getElem?_cons_zero, Option.some.injEq] at e
        rw [e] at this
        have e2 : ((48 : UInt8).toNat : Int) = 48 := rfl
        omega
    · rw [dif_neg h10]
      obtain ⟨a1, a2, a3, a4⟩ := ih (u / 10) (by omega) (by omega)
      have := d48 (k := u % 10) (by omega)
      refine ⟨fun b hb => ?_, ?_, ?_, by simp⟩
      · rcases List.mem_append.1 hb with q | q
        · exact a1 b q
        · rw [List.mem_singleton.1 q]; exact ⟨by omega, by omega⟩
      · rw [val_snoc, a2]; omega
      · rw [List.getElem?_append_left (by omega)]; exact a3
theorem itoa_facts {c : Int} (h1 : 1 ≤ c) (h2 : c ≤ 1000000) : numOk (itoaS c) ∧ val (itoaS c) = c ∧ (∀ b ∈ itoaS c, dig b) := by
  have e : itoaS c = Lib.decDigits c.toNat := by rw [itoaS_eq ⟨by omega, by omega⟩, Lib.itoa, if_neg (by omega)]
  obtain ⟨a1, a2, a3, a4⟩ := dec_facts c.toNat (by omega)
  have hl : (Lib.decDigits c.toNat).length ≤ 7 := by
    rw [← decF_eq 6 c.toNat (by omega)]; exact decF_len 7 _
  rw [e]
  refine ⟨⟨a4, hl, a3, a1, by omega⟩, by omega, a1⟩
theorem verb_facts : ∀ v ∈ verbsL, (10 : UInt8) ∉ v ∧ (32 : UInt8) ∉ v ∧ v ≠ [] ∧ v[0]? ≠ some 35 := by decide
/-- a step that a text can have -/
def Good21 (x : TodoStep) : Prop := isV x.verb = true ∧ 1 ≤ x.commit ∧ x.commit ≤ 1000000 ∧ (x.verb = rewordW → x.text ≠ [] ∧ x.text.length ≤ 256 ∧ (10 : UInt8) ∉ x.text)
/-- .. as it comes back -/
def norm (x : TodoStep) : TodoStep := ⟨x.verb, x.commit, if x.verb = rewordW then x.text else []⟩
theorem dig_not {l : List UInt8} (h : ∀ b ∈ l, dig b) : (10 : UInt8) ∉ l ∧ (32 : UInt8) ∉ l := ⟨fun q => by have := (h _ q).1; simp at this, fun q => by have := (h _ q).1; simp at this⟩
theorem line_facts {x : TodoStep} (h : Good21 x) : (10 : UInt8) ∉ lineT x ∧ trL (lineT x) = lineT x ∧ lineT x ≠ [] ∧ (lineT x)[0]? ≠ some 35 ∧ stepS (lineT x) = (norm x, 0) := by
  obtain ⟨hv, h1, h2, hr⟩ := h
  have hvm : x.verb ∈ verbsL := of_decide_eq_true hv
  obtain ⟨v1, v2, v3, v4⟩ := verb_facts _ hvm
  obtain ⟨n1, n2, n3⟩ := itoa_facts h1 h2
  obtain ⟨d1, d2⟩ := dig_not n3
  obtain ⟨b, r, hb⟩ := List.exists_cons_of_ne_nil v3
  have hb32 : b ≠ 32 := fun e => v2 (by rw [hb, e]; simp)
  have hwd := wd_at (a := x.verb) (itoaS x.commit ++ tailT x) v2
  have hit : trL (32 :: (itoaS x.commit ++ tailT x)) = itoaS x.commit ++ tailT x := by
    have hne : itoaS x.commit ≠ [] := fun e => by have := n1.1; rw [e] at this; simp at this
    obtain ⟨c, q, hc⟩ := List.exists_cons_of_ne_nil hne
    have hc32 : c ≠ 32 := fun e => d2 (by rw [hc, e]; simp)
    rw [hc]
    simp [trL, hc32]
  have hwd2 : wd (itoaS x.commit ++ tailT x) = itoaS x.commit ∧ rs (itoaS x.commit ++ tailT x) = tailT x := by
    unfold tailT
    split
    · exact wd_at _ d2
    · rw [List.append_nil]; exact wd_no d2
  refine ⟨?_, ?_, ?_, ?_, ?_⟩
  · unfold lineT tailT
    intro q
    rcases List.mem_append.1 q with q | q
    · exact v1 q
    · rcases List.mem_cons.1 q with q | q
      · exact absurd q (by decide)
      · rcases List.mem_append.1 q with q | q
        · exact d1 q
        · split at q
          · next hw =>
            rcases List.mem_cons.1 q with q | q
            · exact absurd q (by decide)
            · exact (hr hw).2.2 q
          · cases q
  · unfold lineT
    rw [hb]
    simp [trL, hb32]
  · unfold lineT; simp
  · unfold lineT
    rw [hb]
    rw [hb] at v4
    simpa using v4
  · unfold stepS lineT
    rw [hwd.1, hwd.2, hit, hwd2.1, hwd2.2, n2]
    have hne : ¬ (itoaS x.commit ++ tailT x = []) := fun e => by
      have := n1.1
      have e2 := congrArg List.length e
      rw [List.length_append, List.length_nil] at e2
      omega
    rw [if_neg hne, if_neg (by rw [hv]; simp), if_neg (by simpa using n1)]
    unfold norm tailT
    by_cases hw : x.verb = rewordW
    · obtain ⟨t1, t2, t3⟩ := hr hw
      have := List.length_pos_iff.2 t1
      simp only [hw, if_true, List.length_cons]
      rw [if_neg (by omega), if_neg (by omega)]
      simp
    · simp only [hw, if_false]
      rw [if_pos (by rfl)]
theorem spl_text : ∀ {l : List TodoStep}, (∀ x ∈ l, Good21 x) → spl 10 (textS l) = l.map lineT ++ [[]]
  | [], _ => rfl
  | x :: r, h => by
    rw [textS, spl_at _ (line_facts (h x (List.mem_cons_self ..))).1, spl_text fun y hy => h y (List.mem_cons_of_mem _ hy)]
    rfl
theorem pS_text : ∀ {l : List TodoStep} (i : Int) (out : List TodoStep), (∀ x ∈ l, Good21 x) → out.length + l.length ≤ 32 → pS i out (l.map lineT ++ [[]]) = (out ++ l.map norm, none)
  | [], i, out, _, _ => by simp [pS, trL]
  | x :: r, i, out, h, hl => by
    obtain ⟨_, f2, f3, f4, f5⟩ := line_facts (h x (List.mem_cons_self ..))
    simp only [List.length_cons] at hl
    rw [List.map_cons, List.cons_append, pS, f2, if_neg (fun q => q.elim f3 f4), f5]
    rw [if_neg (by simp), if_neg (by omega), pS_text (i + 1) _ (fun y hy => h y (List.mem_cons_of_mem _ hy)) (by simp; omega)]
    simp
theorem back_ok {l : List TodoStep} (h : ∀ x ∈ l, Good21 x) (hl : l.length ≤ 32) : parseS (textS l) = (l.map norm, none) := by
  unfold parseS
  rw [spl_text h, pS_text 0 [] h (by simpa using hl)]
  simp
end Go.S
end
