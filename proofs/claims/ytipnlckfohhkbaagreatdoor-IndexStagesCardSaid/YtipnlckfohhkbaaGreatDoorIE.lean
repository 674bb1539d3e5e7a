/- Part of the proofs of: Any entries put into an index and dropped from it, one after the other: the index is what the document says, and may be; no condition. -/
import Derived.Test.YtipnlckfohhkbaaGreatDoorID
set_option linter.unusedVariables false
set_option linter.unusedSimpArgs false
set_option linter.unusedSectionVars false
section
set_option linter.unusedVariables false
namespace Go.Proofs.YtipnlckfohhkbaaGreatDoor
open Go.RowKit Go.V
open Go.S hiding Str
set_option maxHeartbeats 4000000 in
set_option maxRecDepth 100000 in
theorem rectoref1_Clash_ct (a_0 : Str) (b_1 : Str) {r : Bool} (hS : Sh.rectoref1_Clash a_0 b_1 = some r) :
    Ct Tryz.prog 61 [str a_0, str b_1] Mo.tt (Ow.emp) (X := Unit) (fun _ => .bool r) (fun _ => True) (fun _ => Mo.tt) (fun _ => Ow.emp) := by
  refine Ct.of Tryz.func61 rfl (by kernel_rfl) Tryz.ntmps61 (by simp) fun c => ?_
  unfold Sh.rectoref1_Clash at hS
  refine VC.seq ?_
  refine VC.region ?_
  refine VL.q (q_assign rfl) (by decide) ?_
  refine VL.to (fun _ _ h => h) ?_
  refine VC.seq ?_
  refine VC.region ?_
  refine VL.q (q_move rfl) (by decide) ?_
  refine VL.q (q_sne rfl rfl) (by decide) ?_
  refine VL.q (q_move rfl) (by decide) ?_
  refine VL.split_ndec 7 rfl (fun h7 => ?_) (fun h7 => ?_)
  ·
    replace hS := it_f h7 hS
    refine VL.gy rfl rfl (q_move rfl) (by decide) ?_
    refine VL.gy rfl rfl (q_sne rfl rfl) (by decide) ?_
    refine VL.q (q_pick_t rfl rfl) (by decide) ?_
    refine VL.q (q_move rfl) (by decide) ?_
    refine VL.split_ndec 11 rfl (fun h11 => ?_) (fun h11 => ?_)
    ·
      replace hS := it_f h11 hS
      refine VL.gy rfl rfl (q_move rfl) (by decide) ?_
      refine VL.gy rfl rfl (q_move rfl) (by decide) ?_
      obtain ⟨y14_1, ey14_1, hS⟩ := bd_s hS
      refine VL.gy rfl rfl (q_call (rectoref1_Under_ct a_0 b_1 ey14_1) rfl (fun _ _ => rfl)) (by decide) ?_
      refine VL.gy rfl rfl (q_move rfl) (by decide) ?_
      refine VL.split 15 rfl (fun h15 => ?_) (fun h15 => ?_)
      ·
        replace hS := it_t h15 hS
        refine VL.gn rfl rfl rfl (by decide) ?_
        refine VL.gn rfl rfl rfl (by decide) ?_
        refine VL.gn rfl rfl rfl (by decide) ?_
        refine VL.gy rfl rfl (q_pick_t rfl rfl) (by decide) ?_
        refine VL.q (q_pick_t rfl rfl) (by decide) ?_
        refine VL.q (q_assign rfl) (by decide) ?_
        refine VL.to (fun _ _ h => h) ?_
        refine VC.keep [4] rfl ?_
        cases hS
        exact VC.ret (fin1 (.inr rfl) rfl rfl () rfl trivial (fun _ _ => trivial) (fun _ _ => trivial))
      ·
        replace hS := it_b h15 hS
        refine VL.gy rfl rfl (q_move rfl) (by decide) ?_
        refine VL.gy rfl rfl (q_move rfl) (by decide) ?_
        obtain ⟨y18_2, ey18_2, hS⟩ := bd_s hS
        refine VL.gy rfl rfl (q_call (rectoref1_Under_ct b_1 a_0 ey18_2) rfl (fun _ _ => rfl)) (by decide) ?_
        refine VL.gy rfl rfl (q_pick_f rfl rfl) (by decide) ?_
        refine VL.q (q_pick_t rfl rfl) (by decide) ?_
        refine VL.q (q_assign rfl) (by decide) ?_
        refine VL.to (fun _ _ h => h) ?_
        refine VC.keep [4] rfl ?_
        cases hS
        exact VC.ret (fin1 (.inr rfl) rfl rfl () rfl trivial (fun _ _ => trivial) (fun _ _ => trivial))
    ·
      replace hS := it_t h11 hS
      refine VL.gn rfl rfl rfl (by decide) ?_
      refine VL.gn rfl rfl rfl (by decide) ?_
      refine VL.gn rfl rfl rfl (by decide) ?_
      refine VL.gn rfl rfl rfl (by decide) ?_
      refine VL.gu rfl rfl (by decide) ?_
      refine VL.gu rfl rfl (by decide) ?_
      refine VL.gu rfl rfl (by decide) ?_
      refine VL.gn rfl rfl rfl (by decide) ?_
      refine VL.q (q_pick_f rfl rfl) (by decide) ?_
      refine VL.q (q_assign rfl) (by decide) ?_
      refine VL.to (fun _ _ h => h) ?_
      refine VC.keep [4] rfl ?_
      cases hS
      exact VC.ret (fin1 (.inr rfl) rfl rfl () rfl trivial (fun _ _ => trivial) (fun _ _ => trivial))
  ·
    replace hS := it_t h7 hS
    refine VL.gn rfl rfl rfl (by decide) ?_
    refine VL.gn rfl rfl rfl (by decide) ?_
    refine VL.q (q_pick_f rfl rfl) (by decide) ?_
    refine VL.q (q_move rfl) (by decide) ?_
    refine VL.gn rfl rfl rfl (by decide) ?_
    refine VL.gn rfl rfl rfl (by decide) ?_
    refine VL.gn rfl rfl rfl (by decide) ?_
    refine VL.gn rfl rfl rfl (by decide) ?_
    refine VL.gu rfl rfl (by decide) ?_
    refine VL.gu rfl rfl (by decide) ?_
    refine VL.gu rfl rfl (by decide) ?_
    refine VL.gn rfl rfl rfl (by decide) ?_
    refine VL.q (q_pick_f rfl rfl) (by decide) ?_
    refine VL.q (q_assign rfl) (by decide) ?_
    refine VL.to (fun _ _ h => h) ?_
    refine VC.keep [4] rfl ?_
    cases hS
    exact VC.ret (fin1 (.inr rfl) rfl rfl () rfl trivial (fun _ _ => trivial) (fun _ _ => trivial))

set_option maxHeartbeats 4000000 in
set_option maxRecDepth 100000 in
theorem rectoref14_entry_ct (l_0 : Sv Rectoref14Entry) (i_1 : Int) {r : Int} (hS : Sh.rectoref14_entry l_0.l i_1 = some r) :
    Ct Tryz.prog 53 [l_0.val, i64 i_1] l_0.ok (Ow.emp) (X := Unit) (fun _ => i64 r) (fun _ => True) (fun _ => Mo.tt) (fun _ => Ow.emp) := by
  refine Ct.of Tryz.func53 rfl (by kernel_rfl) Tryz.ntmps53 (by simp) fun c => ?_
  unfold Sh.rectoref14_entry at hS
  refine VC.seq ?_
  refine VC.region ?_
  refine VL.q (q_assign rfl) (by decide) ?_
  refine VL.to (fun _ _ h => h) ?_
  refine VC.seq ?_
  refine VC.region ?_
  refine VL.q (q_move rfl) (by decide) ?_
  refine VL.q (q_move rfl) (by decide) ?_
  obtain ⟨z11_1, nz11_1, hz11_1, hS⟩ := at_s hS
  refine VL.q (q_ixm (s := l_0) Tryz.underlying44 gsz51 rfl rfl nz11_1 (lt_of_get nz11_1 hz11_1)) (by decide) ?_
  refine VL.q (q_els (s := l_0) gagg51 rfl rfl hz11_1) (by decide) ?_
  refine VL.alloc (cs := [str [], i64 0, i64 0, str [], i64 0, i64 0]) (by kernel_rfl) (by decide) fun b5_2 => ?_
  refine VL.store (vc := [str z11_1.path, i64 z11_1.stage, i64 z11_1.mode, str z11_1.data, i64 z11_1.time, i64 z11_1.size]) (cs' := [str z11_1.path, i64 z11_1.stage, i64 z11_1.mode, str z11_1.data, i64 z11_1.time, i64 z11_1.size]) rfl rfl rfl gsz51 rfl rfl (Nat.le_of_ble_eq_true rfl) rfl ?_
  refine VL.to (fun _ _ h => h) ?_
  refine VC.seq ?_
  refine VC.region ?_
  refine VL.q (q_field gfa51_0 rfl) (by decide) ?_
  refine VL.q (q_fe gone9 rfl rfl) (by decide) ?_
  obtain ⟨y15_3, ey15_3, hS⟩ := bd_s hS
  refine VL.q (q_call (rectoref1_Check_ct z11_1.path ey15_3) rfl (fun _ _ => rfl)) (by decide) ?_
  refine VL.q (q_assign rfl) (by decide) ?_
  refine VL.to (fun _ _ h => h) ?_
  refine VC.keep [0, 1, 5, 6] rfl ?_
  refine VC.seq ?_
  refine VC.block ?_
  refine VC.seq ?_
  refine VC.region ?_
  refine VL.q (q_move rfl) (by decide) ?_
  refine VL.q (q_neq rfl rfl) (by decide) ?_
  refine VL.q (q_assign rfl) (by decide) ?_
  refine VL.to (fun _ _ h => h) ?_
  refine VC.cond_ndec rfl (fun h16 => ?_) (fun h16 => ?_)
  ·
    replace hS := it_f h16 hS
    refine VC.seq ?_
    refine VC.region ?_
    refine VL.q (q_move rfl) (by decide) ?_
    refine VL.q (q_assign rfl) (by decide) ?_
    refine VL.to (fun _ _ h => h) ?_
    cases hS
    exact VC.ret (fin1 (.inr rfl) rfl rfl () rfl trivial (fun _ _ => trivial) (fun _ _ => trivial))
  ·
    replace hS := it_t h16 hS
    refine VC.cutJ (S := Bool) (fun (x20_4 : Bool) => x20_4) (fun (x20_4 : Bool) => [(0, l_0.val), (1, i64 i_1), (5, ptr b5_2 0), (20, .bool x20_4)]) (fun (x20_4 : Bool) => Mo.tt) (fun (x20_4 : Bool) => Ow.star (Blk b5_2 [str z11_1.path, i64 z11_1.stage, i64 z11_1.mode, str z11_1.data, i64 z11_1.time, i64 z11_1.size] 51) (Ow.emp)) hS ?_ ?_
    · -- up to where ways meet
      clear hS
      intro k5 hS
      refine VC.region ?_
      refine VL.q (q_field gfa51_1 rfl) (by decide) ?_
      refine VL.q (q_fe gone3 rfl rfl) (by decide) ?_
      refine VL.q (q_lss rfl rfl) (by decide) ?_
      refine VL.q (q_move rfl) (by decide) ?_
      refine VL.split_dec 24 rfl (fun h24 => ?_) (fun h24 => ?_)
      ·
        replace hS := it_t h24 hS
        refine VL.gn rfl rfl rfl (by decide) ?_
        refine VL.gn rfl rfl rfl (by decide) ?_
        refine VL.gn rfl rfl rfl (by decide) ?_
        refine VL.q (q_pick_t rfl rfl) (by decide) ?_
        refine VL.q (q_move rfl) (by decide) ?_
        refine VL.gn rfl rfl rfl (by decide) ?_
        refine VL.gn rfl rfl rfl (by decide) ?_
        refine VL.gn rfl rfl rfl (by decide) ?_
        refine VL.gn rfl rfl rfl (by decide) ?_
        refine VL.q (q_pick_t rfl rfl) (by decide) ?_
        refine VL.q (q_move rfl) (by decide) ?_
        refine VL.gn rfl rfl rfl (by decide) ?_
        refine VL.gn rfl rfl rfl (by decide) ?_
        refine VL.gn rfl rfl rfl (by decide) ?_
        refine VL.q (q_pick_t rfl rfl) (by decide) ?_
        refine VL.q (q_move rfl) (by decide) ?_
        refine VL.gn rfl rfl rfl (by decide) ?_
        refine VL.gn rfl rfl rfl (by decide) ?_
        refine VL.gn rfl rfl rfl (by decide) ?_
        refine VL.q (q_pick_t rfl rfl) (by decide) ?_
        refine VL.q (q_assign rfl) (by decide) ?_
        refine VL.mt true [0, 1, 5, 20] (fun _ _ h => h) hS rfl
      ·
        replace hS := it_f h24 hS
        refine VL.gy rfl rfl (q_field gfa51_1 rfl) (by decide) ?_
        refine VL.gy rfl rfl (q_fe gone3 rfl rfl) (by decide) ?_
        refine VL.gy rfl rfl (q_gtr rfl rfl) (by decide) ?_
        refine VL.q (q_pick_f rfl rfl) (by decide) ?_
        refine VL.q (q_move rfl) (by decide) ?_
        refine VL.split_dec 29 rfl (fun h29 => ?_) (fun h29 => ?_)
        ·
          replace hS := it_t h29 hS
          refine VL.gn rfl rfl rfl (by decide) ?_
          refine VL.gn rfl rfl rfl (by decide) ?_
          refine VL.gn rfl rfl rfl (by decide) ?_
          refine VL.gn rfl rfl rfl (by decide) ?_
          refine VL.q (q_pick_t rfl rfl) (by decide) ?_
          refine VL.q (q_move rfl) (by decide) ?_
          refine VL.gn rfl rfl rfl (by decide) ?_
          refine VL.gn rfl rfl rfl (by decide) ?_
          refine VL.gn rfl rfl rfl (by decide) ?_
          refine VL.q (q_pick_t rfl rfl) (by decide) ?_
          refine VL.q (q_move rfl) (by decide) ?_
          refine VL.gn rfl rfl rfl (by decide) ?_
          refine VL.gn rfl rfl rfl (by decide) ?_
          refine VL.gn rfl rfl rfl (by decide) ?_
          refine VL.q (q_pick_t rfl rfl) (by decide) ?_
          refine VL.q (q_assign rfl) (by decide) ?_
          refine VL.mt true [0, 1, 5, 20] (fun _ _ h => h) hS rfl
        ·
          replace hS := it_f h29 hS
          refine VL.gy rfl rfl (q_field gfa51_2 rfl) (by decide) ?_
          refine VL.gy rfl rfl (q_fe gone3 rfl rfl) (by decide) ?_
          obtain ⟨y32_6, ey32_6, hS⟩ := bd_s hS
          refine VL.gy rfl rfl (q_call (rectoref14_Mode_ct z11_1.mode ey32_6) rfl (fun _ _ => rfl)) (by decide) ?_
          refine VL.gy rfl rfl (q_not rfl) (by decide) ?_
          refine VL.q (q_pick_f rfl rfl) (by decide) ?_
          refine VL.q (q_move rfl) (by decide) ?_
          refine VL.split 35 rfl (fun h35 => ?_) (fun h35 => ?_)
          ·
            replace hS := it_t h35 hS
            refine VL.gn rfl rfl rfl (by decide) ?_
            refine VL.gn rfl rfl rfl (by decide) ?_
            refine VL.gn rfl rfl rfl (by decide) ?_
            refine VL.q (q_pick_t rfl rfl) (by decide) ?_
            refine VL.q (q_move rfl) (by decide) ?_
            refine VL.gn rfl rfl rfl (by decide) ?_
            refine VL.gn rfl rfl rfl (by decide) ?_
            refine VL.gn rfl rfl rfl (by decide) ?_
            refine VL.q (q_pick_t rfl rfl) (by decide) ?_
            refine VL.q (q_assign rfl) (by decide) ?_
            refine VL.mt true [0, 1, 5, 20] (fun _ _ h => h) hS rfl
          ·
            replace hS := it_b h35 hS
            refine VL.gy rfl rfl (q_field gfa51_4 rfl) (by decide) ?_
            refine VL.gy rfl rfl (q_fe gone3 rfl rfl) (by decide) ?_
            refine VL.gy rfl rfl (q_lss rfl rfl) (by decide) ?_
            refine VL.q (q_pick_f rfl rfl) (by decide) ?_
            refine VL.q (q_move rfl) (by decide) ?_
            refine VL.split_dec 40 rfl (fun h40 => ?_) (fun h40 => ?_)
            ·
              replace hS := it_t h40 hS
              refine VL.gn rfl rfl rfl (by decide) ?_
              refine VL.gn rfl rfl rfl (by decide) ?_
              refine VL.gn rfl rfl rfl (by decide) ?_
              refine VL.q (q_pick_t rfl rfl) (by decide) ?_
              refine VL.q (q_assign rfl) (by decide) ?_
              refine VL.mt true [0, 1, 5, 20] (fun _ _ h => h) hS rfl
            ·
              replace hS := it_f h40 hS
              refine VL.gy rfl rfl (q_field gfa51_5 rfl) (by decide) ?_
              refine VL.gy rfl rfl (q_fe gone3 rfl rfl) (by decide) ?_
              refine VL.gy rfl rfl (q_lss rfl rfl) (by decide) ?_
              refine VL.q (q_pick_f rfl rfl) (by decide) ?_
              refine VL.q (q_assign rfl) (by decide) ?_
              refine VL.mt (decide (z11_1.size < 0)) [0, 1, 5, 20] (fun _ _ h => h) hS rfl
    · -- from there
      clear hS
      rintro x20_4 hS
      show VC _ _ _ _ _ [(0, l_0.val), (1, i64 i_1), (5, ptr b5_2 0), (20, .bool x20_4)] (Mo.and Mo.tt _) (Ow.star (Blk b5_2 [str z11_1.path, i64 z11_1.stage, i64 z11_1.mode, str z11_1.data, i64 z11_1.time, i64 z11_1.size] 51) (Ow.emp))
      refine VC.cond rfl (fun h20 => ?_) (fun h20 => ?_)
      ·
        replace hS := it_t h20 hS
        refine VC.seq ?_
        refine VC.region ?_
        refine VL.q (q_assign rfl) (by decide) ?_
        refine VL.to (fun _ _ h => h) ?_
        cases hS
        exact VC.ret (fin1 (.inr rfl) rfl rfl () rfl trivial (fun _ _ => trivial) (fun _ _ => trivial))
      ·
        replace hS := it_b h20 hS
        refine VC.seq ?_
        refine VC.region ?_
        refine VL.q (q_field gfa51_3 rfl) (by decide) ?_
        refine VL.q (q_fe gone9 rfl rfl) (by decide) ?_
        refine VL.q (q_slen Tryz.underlying9 rfl) (by decide) ?_
        refine VL.q (q_gtr rfl rfl) (by decide) ?_
        refine VL.q (q_assign rfl) (by decide) ?_
        refine VL.to (fun _ _ h => h) ?_
        refine VC.cond_dec rfl (fun h45 => ?_) (fun h45 => ?_)
        ·
          replace hS := it_t h45 hS
          refine VC.seq ?_
          refine VC.region ?_
          refine VL.q (q_assign rfl) (by decide) ?_
          refine VL.to (fun _ _ h => h) ?_
          cases hS
          exact VC.ret (fin1 (.inr rfl) rfl rfl () rfl trivial (fun _ _ => trivial) (fun _ _ => trivial))
        ·
          replace hS := it_f h45 hS
          refine VC.skip_to (fun _ _ h => h) ?_
          refine VC.seq ?_
          refine VC.cutJ (S := Bool) (fun (x84_7 : Bool) => x84_7) (fun (x84_7 : Bool) => [(0, l_0.val), (1, i64 i_1), (5, ptr b5_2 0), (84, .bool x84_7)]) (fun (x84_7 : Bool) => Mo.tt) (fun (x84_7 : Bool) => Ow.star (Blk b5_2 [str z11_1.path, i64 z11_1.stage, i64 z11_1.mode, str z11_1.data, i64 z11_1.time, i64 z11_1.size] 51) (Ow.emp)) hS ?_ ?_
          · -- up to where ways meet
            clear hS
            intro k8 hS
            refine VC.draw ((List.range 35).map fun k => (k, true)) mixed (by kernel_rfl) (by kernel_rfl) (by kernel_rfl) ?_
            refine VD.q rfl (q_move rfl) (by decide) ?_
            refine VD.q rfl (q_gtr rfl rfl) (by decide) ?_
            refine VD.q rfl (q_move rfl) (by decide) ?_
            refine VD.split_dec 52 rfl (fun h52 => ?_) (fun h52 => ?_)
            ·
              replace hS := it_t h52 hS
              refine VD.gy rfl rfl rfl (q_move rfl) (by decide) ?_
              refine VD.gy rfl rfl rfl (q_move rfl) (by decide) ?_
              obtain ⟨b55, hS⟩ := gd_s hS
              refine VD.gy rfl rfl rfl (q_sub rfl rfl b55) (by decide) ?_
              obtain ⟨z56_9, nz56_9, hz56_9, hS⟩ := at_s hS
              refine VD.gy rfl rfl rfl (q_ixm (s := l_0) Tryz.underlying44 gsz51 rfl rfl nz56_9 (lt_of_get nz56_9 hz56_9)) (by decide) ?_
              refine VD.gy rfl rfl rfl (q_field gfa51_0 rfl) (by decide) ?_
              refine VD.gy rfl rfl rfl (q_elf (s := l_0) gone9 rfl hz56_9 rfl) (by decide) ?_
              refine VD.gy rfl rfl rfl (q_field gfa51_0 rfl) (by decide) ?_
              refine VD.gy rfl rfl rfl (q_fe gone9 rfl rfl) (by decide) ?_
              refine VD.gy rfl rfl rfl (q_sgtr rfl rfl) (by decide) ?_
              refine VD.gy rfl rfl rfl (q_move rfl) (by decide) ?_
              refine VD.split 62 rfl (fun h62 => ?_) (fun h62 => ?_)
              ·
                replace hS := it_t h62 hS
                refine VD.gn rfl rfl rfl rfl (by decide) ?_
                refine VD.gn rfl rfl rfl rfl (by decide) ?_
                refine VD.gn rfl rfl rfl rfl (by decide) ?_
                refine VD.gn rfl rfl rfl rfl (by decide) ?_
                refine VD.gn rfl rfl rfl rfl (by decide) ?_
                refine VD.gn rfl rfl rfl rfl (by decide) ?_
                refine VD.gn rfl rfl rfl rfl (by decide) ?_
                refine VD.gn rfl rfl rfl rfl (by decide) ?_
                refine VD.gn rfl rfl rfl rfl (by decide) ?_
                refine VD.gn rfl rfl rfl rfl (by decide) ?_
                refine VD.gu rfl rfl rfl (by decide) ?_
                refine VD.gu rfl rfl rfl (by decide) ?_
                refine VD.gu rfl rfl rfl (by decide) ?_
                refine VD.gu rfl rfl rfl (by decide) ?_
                refine VD.gu rfl rfl rfl (by decide) ?_
                refine VD.gu rfl rfl rfl (by decide) ?_
                refine VD.gu rfl rfl rfl (by decide) ?_
                refine VD.gu rfl rfl rfl (by decide) ?_
                refine VD.gu rfl rfl rfl (by decide) ?_
                refine VD.gn rfl rfl rfl rfl (by decide) ?_
                refine VD.gy rfl rfl rfl (q_pick_t rfl rfl) (by decide) ?_
                refine VD.q rfl (q_pick_t rfl rfl) (by decide) ?_
                refine VD.mt true [0, 1, 5, 84] (fun _ _ h => h) hS rfl
              ·
                replace hS := it_b h62 hS
                refine VD.gy rfl rfl rfl (q_move rfl) (by decide) ?_
                refine VD.gy rfl rfl rfl (q_move rfl) (by decide) ?_
                obtain ⟨b65, hS⟩ := gd_s hS
                refine VD.gy rfl rfl rfl (q_sub rfl rfl b65) (by decide) ?_
                obtain ⟨z66_10, nz66_10, hz66_10, hS⟩ := at_s hS
                refine VD.gy rfl rfl rfl (q_ixm (s := l_0) Tryz.underlying44 gsz51 rfl rfl nz66_10 (lt_of_get nz66_10 hz66_10)) (by decide) ?_
                refine VD.gy rfl rfl rfl (q_field gfa51_0 rfl) (by decide) ?_
                refine VD.gy rfl rfl rfl (q_elf (s := l_0) gone9 rfl hz66_10 rfl) (by decide) ?_
                refine VD.gy rfl rfl rfl (q_field gfa51_0 rfl) (by decide) ?_
                refine VD.gy rfl rfl rfl (q_fe gone9 rfl rfl) (by decide) ?_
                refine VD.gy rfl rfl rfl (q_seq rfl rfl) (by decide) ?_
                refine VD.gy rfl rfl rfl (q_move rfl) (by decide) ?_
                refine VD.split_dec 72 rfl (fun h72 => ?_) (fun h72 => ?_)
                ·
                  replace hS := it_t h72 hS
                  refine VD.gy rfl rfl rfl (q_move rfl) (by decide) ?_
                  refine VD.gy rfl rfl rfl (q_move rfl) (by decide) ?_
                  obtain ⟨b75, hS⟩ := gd_s hS
                  refine VD.gy rfl rfl rfl (q_sub rfl rfl b75) (by decide) ?_
                  obtain ⟨z76_11, nz76_11, hz76_11, hS⟩ := at_s hS
                  refine VD.gy rfl rfl rfl (q_ixm (s := l_0) Tryz.underlying44 gsz51 rfl rfl nz76_11 (lt_of_get nz76_11 hz76_11)) (by decide) ?_
                  refine VD.gy rfl rfl rfl (q_field gfa51_1 rfl) (by decide) ?_
                  refine VD.gy rfl rfl rfl (q_elf (s := l_0) gone3 rfl hz76_11 rfl) (by decide) ?_
                  refine VD.gy rfl rfl rfl (q_field gfa51_1 rfl) (by decide) ?_
                  refine VD.gy rfl rfl rfl (q_fe gone3 rfl rfl) (by decide) ?_
                  refine VD.gy rfl rfl rfl (q_geq rfl rfl) (by decide) ?_
                  refine VD.gy rfl rfl rfl (q_pick_t rfl rfl) (by decide) ?_
                  refine VD.gy rfl rfl rfl (q_pick_f rfl rfl) (by decide) ?_
                  refine VD.q rfl (q_pick_t rfl rfl) (by decide) ?_
                  refine VD.mt (decide (z11_1.stage ≤ z76_11.stage)) [0, 1, 5, 84] (fun _ _ h => h) hS rfl
                ·
                  replace hS := it_f h72 hS
                  refine VD.gn rfl rfl rfl rfl (by decide) ?_
                  refine VD.gn rfl rfl rfl rfl (by decide) ?_
                  refine VD.gn rfl rfl rfl rfl (by decide) ?_
                  refine VD.gn rfl rfl rfl rfl (by decide) ?_
                  refine VD.gn rfl rfl rfl rfl (by decide) ?_
                  refine VD.gn rfl rfl rfl rfl (by decide) ?_
                  refine VD.gn rfl rfl rfl rfl (by decide) ?_
                  refine VD.gn rfl rfl rfl rfl (by decide) ?_
                  refine VD.gn rfl rfl rfl rfl (by decide) ?_
                  refine VD.gy rfl rfl rfl (q_pick_f rfl rfl) (by decide) ?_
                  refine VD.gy rfl rfl rfl (q_pick_f rfl rfl) (by decide) ?_
                  refine VD.q rfl (q_pick_t rfl rfl) (by decide) ?_
                  refine VD.mt false [0, 1, 5, 84] (fun _ _ h => h) hS rfl
            ·
              replace hS := it_f h52 hS
              refine VD.gn rfl rfl rfl rfl (by decide) ?_
              refine VD.gn rfl rfl rfl rfl (by decide) ?_
              refine VD.gn rfl rfl rfl rfl (by decide) ?_
              refine VD.gn rfl rfl rfl rfl (by decide) ?_
              refine VD.gn rfl rfl rfl rfl (by decide) ?_
              refine VD.gn rfl rfl rfl rfl (by decide) ?_
              refine VD.gn rfl rfl rfl rfl (by decide) ?_
              refine VD.gn rfl rfl rfl rfl (by decide) ?_
              refine VD.gn rfl rfl rfl rfl (by decide) ?_
              refine VD.gn rfl rfl rfl rfl (by decide) ?_
              refine VD.gu rfl rfl rfl (by decide) ?_
              refine VD.gu rfl rfl rfl (by decide) ?_
              refine VD.gu rfl rfl rfl (by decide) ?_
              refine VD.gu rfl rfl rfl (by decide) ?_
              refine VD.gu rfl rfl rfl (by decide) ?_
              refine VD.gu rfl rfl rfl (by decide) ?_
              refine VD.gu rfl rfl rfl (by decide) ?_
              refine VD.gu rfl rfl rfl (by decide) ?_
              refine VD.gu rfl rfl rfl (by decide) ?_
              refine VD.gu rfl rfl rfl (by decide) ?_
              refine VD.gu rfl rfl rfl (by decide) ?_
              refine VD.gu rfl rfl rfl (by decide) ?_
              refine VD.gu rfl rfl rfl (by decide) ?_
              refine VD.gu rfl rfl rfl (by decide) ?_
              refine VD.gu rfl rfl rfl (by decide) ?_
              refine VD.gu rfl rfl rfl (by decide) ?_
              refine VD.gu rfl rfl rfl (by decide) ?_
              refine VD.gu rfl rfl rfl (by decide) ?_
              refine VD.gu rfl rfl rfl (by decide) ?_
              refine VD.gu rfl rfl rfl (by decide) ?_
              refine VD.gn rfl rfl rfl rfl (by decide) ?_
              refine VD.q rfl (q_pick_f rfl rfl) (by decide) ?_
              refine VD.mt false [0, 1, 5, 84] (fun _ _ h => h) hS rfl
          · -- from there
            clear hS
            rintro x84_7 hS
            show VC _ _ _ _ _ [(0, l_0.val), (1, i64 i_1), (5, ptr b5_2 0), (84, .bool x84_7)] (Mo.and Mo.tt _) (Ow.star (Blk b5_2 [str z11_1.path, i64 z11_1.stage, i64 z11_1.mode, str z11_1.data, i64 z11_1.time, i64 z11_1.size] 51) (Ow.emp))
            refine VC.cond rfl (fun h84 => ?_) (fun h84 => ?_)
            ·
              replace hS := it_t h84 hS
              refine VC.seq ?_
              refine VC.region ?_
              refine VL.q (q_assign rfl) (by decide) ?_
              refine VL.to (fun _ _ h => h) ?_
              cases hS
              exact VC.ret (fin1 (.inr rfl) rfl rfl () rfl trivial (fun _ _ => trivial) (fun _ _ => trivial))
            ·
              replace hS := it_b h84 hS
              refine VC.skip_to (fun _ _ h => h) ?_
              refine VC.seq ?_
              refine VC.seq ?_
              refine VC.region ?_
              refine VL.q (q_assign rfl) (by decide) ?_
              refine VL.to (fun _ _ h => h) ?_
              refine VC.block ?_
              refine VC.iter (S := Int) (fun (k7_12 : Int) => k7_12) (fun (k7_12 : Int) => [(0, l_0.val), (1, i64 i_1), (5, ptr b5_2 0), (7, i64 k7_12)]) (fun (k7_12 : Int) => Mo.tt) (fun (k7_12 : Int) => Ow.star (Blk b5_2 [str z11_1.path, i64 z11_1.stage, i64 z11_1.mode, str z11_1.data, i64 z11_1.time, i64 z11_1.size] 51) (Ow.emp)) 0 [0, 1, 5, 7] hS rfl ?_
              clear hS
              rintro k7_12 m1 y1 hS hK1
              show VC _ _ _ _ _ [(0, l_0.val), (1, i64 i_1), (5, ptr b5_2 0), (7, i64 k7_12)] (Mo.and Mo.tt _) (Ow.star (Blk b5_2 [str z11_1.path, i64 z11_1.stage, i64 z11_1.mode, str z11_1.data, i64 z11_1.time, i64 z11_1.size] 51) (Ow.emp))
              refine VC.seq ?_
              refine VC.seq ?_
              refine VC.region ?_
              refine VL.q (q_move rfl) (by decide) ?_
              refine VL.q (q_move rfl) (by decide) ?_
              refine VL.q (q_lss rfl rfl) (by decide) ?_
              refine VL.to (fun _ _ h => h) ?_
              refine VC.cond_dec rfl (fun h87 => ?_) (fun h87 => ?_)
              ·
                replace hS := it_t h87 hS
                refine VC.skip_to (fun _ _ h => h) ?_
                refine VC.seq ?_
                refine VC.block ?_
                refine VC.cutJ (S := Bool) (fun (x110_13 : Bool) => x110_13) (fun (x110_13 : Bool) => [(0, l_0.val), (1, i64 i_1), (5, ptr b5_2 0), (7, i64 k7_12), (110, .bool x110_13)]) (fun (x110_13 : Bool) => Mo.tt) (fun (x110_13 : Bool) => Ow.star (Blk b5_2 [str z11_1.path, i64 z11_1.stage, i64 z11_1.mode, str z11_1.data, i64 z11_1.time, i64 z11_1.size] 51) (Ow.emp)) hS ?_ ?_
                · -- up to where ways meet
                  clear hS
                  intro k14 hS
                  refine VC.draw ((List.range 21).map fun k => (k, true)) mixed (by kernel_rfl) (by kernel_rfl) (by kernel_rfl) ?_
                  refine VD.q rfl (q_move rfl) (by decide) ?_
                  refine VD.q rfl (q_move rfl) (by decide) ?_
                  obtain ⟨z92_15, nz92_15, hz92_15, hS⟩ := at_s hS
                  refine VD.q rfl (q_ixm (s := l_0) Tryz.underlying44 gsz51 rfl rfl nz92_15 (lt_of_get nz92_15 hz92_15)) (by decide) ?_
                  refine VD.q rfl (q_field gfa51_0 rfl) (by decide) ?_
                  refine VD.q rfl (q_elf (s := l_0) gone9 rfl hz92_15 rfl) (by decide) ?_
                  refine VD.q rfl (q_field gfa51_0 rfl) (by decide) ?_
                  refine VD.q rfl (q_fe gone9 rfl rfl) (by decide) ?_
                  refine VD.q rfl (q_seq rfl rfl) (by decide) ?_
                  refine VD.q rfl (q_move rfl) (by decide) ?_
                  refine VD.split_dec 98 rfl (fun h98 => ?_) (fun h98 => ?_)
                  ·
                    replace hS := it_t h98 hS
                    refine VD.gy rfl rfl rfl (q_move rfl) (by decide) ?_
                    refine VD.gy rfl rfl rfl (q_move rfl) (by decide) ?_
                    obtain ⟨z101_16, nz101_16, hz101_16, hS⟩ := at_s hS
                    refine VD.gy rfl rfl rfl (q_ixm (s := l_0) Tryz.underlying44 gsz51 rfl rfl nz101_16 (lt_of_get nz101_16 hz101_16)) (by decide) ?_
                    refine VD.gy rfl rfl rfl (q_field gfa51_1 rfl) (by decide) ?_
                    refine VD.gy rfl rfl rfl (q_elf (s := l_0) gone3 rfl hz101_16 rfl) (by decide) ?_
                    refine VD.gy rfl rfl rfl (q_eql rfl rfl) (by decide) ?_
                    refine VD.gy rfl rfl rfl (q_move rfl) (by decide) ?_
                    refine VD.split_dec 105 rfl (fun h105 => ?_) (fun h105 => ?_)
                    ·
                      replace hS := it_t h105 hS
                      refine VD.gn rfl rfl rfl rfl (by decide) ?_
                      refine VD.gn rfl rfl rfl rfl (by decide) ?_
                      refine VD.gn rfl rfl rfl rfl (by decide) ?_
                      refine VD.gy rfl rfl rfl (q_pick_t rfl rfl) (by decide) ?_
                      refine VD.q rfl (q_pick_t rfl rfl) (by decide) ?_
                      refine VD.mt true [0, 1, 5, 7, 110] (fun _ _ h => h) hS rfl
                    ·
                      replace hS := it_f h105 hS
                      refine VD.gy rfl rfl rfl (q_field gfa51_1 rfl) (by decide) ?_
                      refine VD.gy rfl rfl rfl (q_fe gone3 rfl rfl) (by decide) ?_
                      refine VD.gy rfl rfl rfl (q_eql rfl rfl) (by decide) ?_
                      refine VD.gy rfl rfl rfl (q_pick_f rfl rfl) (by decide) ?_
                      refine VD.q rfl (q_pick_t rfl rfl) (by decide) ?_
                      refine VD.mt (decide (z11_1.stage = 0)) [0, 1, 5, 7, 110] (fun _ _ h => h) hS rfl
                  ·
                    replace hS := it_f h98 hS
                    refine VD.gn rfl rfl rfl rfl (by decide) ?_
                    refine VD.gn rfl rfl rfl rfl (by decide) ?_
                    refine VD.gn rfl rfl rfl rfl (by decide) ?_
                    refine VD.gn rfl rfl rfl rfl (by decide) ?_
                    refine VD.gn rfl rfl rfl rfl (by decide) ?_
                    refine VD.gn rfl rfl rfl rfl (by decide) ?_
                    refine VD.gn rfl rfl rfl rfl (by decide) ?_
                    refine VD.gu rfl rfl rfl (by decide) ?_
                    refine VD.gu rfl rfl rfl (by decide) ?_
                    refine VD.gu rfl rfl rfl (by decide) ?_
                    refine VD.gn rfl rfl rfl rfl (by decide) ?_
                    refine VD.q rfl (q_pick_f rfl rfl) (by decide) ?_
                    refine VD.mt false [0, 1, 5, 7, 110] (fun _ _ h => h) hS rfl
                · -- from there
                  clear hS
                  rintro x110_13 hS
                  show VC _ _ _ _ _ [(0, l_0.val), (1, i64 i_1), (5, ptr b5_2 0), (7, i64 k7_12), (110, .bool x110_13)] (Mo.and Mo.tt _) (Ow.star (Blk b5_2 [str z11_1.path, i64 z11_1.stage, i64 z11_1.mode, str z11_1.data, i64 z11_1.time, i64 z11_1.size] 51) (Ow.emp))
                  refine VC.cond rfl (fun h110 => ?_) (fun h110 => ?_)
                  ·
                    replace hS := it_t h110 hS
                    refine VC.seq ?_
                    refine VC.region ?_
                    refine VL.q (q_assign rfl) (by decide) ?_
                    refine VL.to (fun _ _ h => h) ?_
                    replace hS := up2 hS hK1
                    cases hS
                    exact VC.ret (fin1 (.inr rfl) rfl rfl () rfl trivial (fun _ _ => trivial) (fun _ _ => trivial))
                  ·
                    replace hS := it_b h110 hS
                    refine VC.skip_to (fun _ _ h => h) ?_
                    refine VC.region ?_
                    refine VL.q (q_move rfl) (by decide) ?_
                    obtain ⟨b89, hS⟩ := gd_s hS
                    refine VL.q (q_add rfl rfl b89) (by decide) ?_
                    refine VL.q (q_assign rfl) (by decide) ?_
                    refine VL.rnd (k7_12 + 1) [0, 1, 5, 7] (fun _ _ h => h) (go2 hS hK1) rfl
              ·
                replace hS := it_f h87 hS
                replace hS := up2 hS hK1
                refine VC.exit_to (fun _ _ h => h) ?_
                refine VC.seq ?_
                refine VC.seq ?_
                refine VC.region ?_
                refine VL.q (q_assign rfl) (by decide) ?_
                refine VL.to (fun _ _ h => h) ?_
                refine VC.block ?_
                refine VC.iter (S := Int) (fun (k8_17 : Int) => k8_17) (fun (k8_17 : Int) => [(0, l_0.val), (1, i64 i_1), (5, ptr b5_2 0), (8, i64 k8_17)]) (fun (k8_17 : Int) => Mo.tt) (fun (k8_17 : Int) => Ow.star (Blk b5_2 [str z11_1.path, i64 z11_1.stage, i64 z11_1.mode, str z11_1.data, i64 z11_1.time, i64 z11_1.size] 51) (Ow.emp)) 0 [0, 1, 5, 8] hS rfl ?_
                clear hS
                rintro k8_17 m1 y1 hS hK1
                show VC _ _ _ _ _ [(0, l_0.val), (1, i64 i_1), (5, ptr b5_2 0), (8, i64 k8_17)] (Mo.and Mo.tt _) (Ow.star (Blk b5_2 [str z11_1.path, i64 z11_1.stage, i64 z11_1.mode, str z11_1.data, i64 z11_1.time, i64 z11_1.size] 51) (Ow.emp))
                refine VC.seq ?_
                refine VC.seq ?_
                refine VC.region ?_
                refine VL.q (q_move rfl) (by decide) ?_
                refine VL.q (q_move rfl) (by decide) ?_
                refine VL.q (q_lss rfl rfl) (by decide) ?_
                refine VL.to (fun _ _ h => h) ?_
                refine VC.cond_dec rfl (fun h113 => ?_) (fun h113 => ?_)
                ·
                  replace hS := it_t h113 hS
                  refine VC.skip_to (fun _ _ h => h) ?_
                  refine VC.seq ?_
                  refine VC.block ?_
                  refine VC.seq ?_
                  refine VC.draw ((List.range 8).map fun k => (k, true)) mixed (by kernel_rfl) (by kernel_rfl) (by kernel_rfl) ?_
                  refine VD.q rfl (q_move rfl) (by decide) ?_
                  refine VD.q rfl (q_move rfl) (by decide) ?_
                  obtain ⟨z118_18, nz118_18, hz118_18, hS⟩ := at_s hS
                  refine VD.q rfl (q_ixm (s := l_0) Tryz.underlying44 gsz51 rfl rfl nz118_18 (lt_of_get nz118_18 hz118_18)) (by decide) ?_
                  refine VD.q rfl (q_field gfa51_0 rfl) (by decide) ?_
                  refine VD.q rfl (q_elf (s := l_0) gone9 rfl hz118_18 rfl) (by decide) ?_
                  refine VD.q rfl (q_field gfa51_0 rfl) (by decide) ?_
                  refine VD.q rfl (q_fe gone9 rfl rfl) (by decide) ?_
                  obtain ⟨y123_19, ey123_19, hS⟩ := bd_s hS
                  refine VD.q rfl (q_call (rectoref1_Clash_ct z118_18.path z11_1.path ey123_19) rfl (fun _ _ => rfl)) (by decide) ?_
                  refine VD.to (fun _ _ h => h) ?_
                  refine VC.keep [0, 1, 5, 8, 123] rfl ?_
                  refine VC.cond rfl (fun h123 => ?_) (fun h123 => ?_)
                  ·
                    replace hS := it_t h123 hS
                    refine VC.seq ?_
                    refine VC.region ?_
                    refine VL.q (q_assign rfl) (by decide) ?_
                    refine VL.to (fun _ _ h => h) ?_
                    replace hS := up2 hS hK1
                    cases hS
                    exact VC.ret (fin1 (.inr rfl) rfl rfl () rfl trivial (fun _ _ => trivial) (fun _ _ => trivial))
                  ·
                    replace hS := it_b h123 hS
                    refine VC.skip_to (fun _ _ h => h) ?_
                    refine VC.region ?_
                    refine VL.q (q_move rfl) (by decide) ?_
                    obtain ⟨b115, hS⟩ := gd_s hS
                    refine VL.q (q_add rfl rfl b115) (by decide) ?_
                    refine VL.q (q_assign rfl) (by decide) ?_
                    refine VL.rnd (k8_17 + 1) [0, 1, 5, 8] (fun _ _ h => h) (go2 hS hK1) rfl
                ·
                  replace hS := it_f h113 hS
                  replace hS := up2 hS hK1
                  refine VC.exit_to (fun _ _ h => h) ?_
                  refine VC.seq ?_
                  refine VC.region ?_
                  refine VL.q (q_assign rfl) (by decide) ?_
                  refine VL.to (fun _ _ h => h) ?_
                  cases hS
                  exact VC.ret (fin1 (.inr rfl) rfl rfl () rfl trivial (fun _ _ => trivial) (fun _ _ => trivial))

set_option maxHeartbeats 4000000 in
set_option maxRecDepth 100000 in
theorem rectoref14_CheckIndex_ct (l_0 : Sv Rectoref14Entry) {r : Rectoref3WrongP} (hS : Sh.rectoref14_CheckIndex l_0.l = some r) :
    Ct Tryz.prog 14 [l_0.val] l_0.ok (Ow.emp) (X := Rectoref3Wrong) (fun x => .agg (Dat.enc x).toArray) (fun x => r = x.pl) (fun x => x.m) (fun x => Ow.emp) := by
  refine Ct.of Tryz.func14 rfl (by kernel_rfl) Tryz.ntmps14 (by simp) fun c => ?_
  unfold Sh.rectoref14_CheckIndex at hS
  refine VC.seq ?_
  refine VC.region ?_
  refine VL.alloc (cs := [.slice none 0 0, i64 0]) (by kernel_rfl) (by decide) fun b2_1 => ?_
  refine VL.to (fun _ _ h => h) ?_
  refine VC.seq ?_
  refine VC.seq ?_
  refine VC.region ?_
  refine VL.q (q_move rfl) (by decide) ?_
  refine VL.q (q_ln (s := l_0) Tryz.underlying44 rfl) (by decide) ?_
  refine VL.q (q_gtr rfl rfl) (by decide) ?_
  refine VL.to (fun _ _ h => h) ?_
  refine VC.cond_dec rfl (fun h7 => ?_) (fun h7 => ?_)
  ·
    replace hS := it_t h7 hS
    refine VC.seq ?_
    refine VC.region ?_
    obtain ⟨y8_2, ey8_2, hS⟩ := bd_s hS
    refine VL.callF (rectoref3_At_ct [101, 110, 116, 114, 121] 256 4 ey8_2) rfl (by decide) ?_
    rintro q8_2_0 rfl
    try dsimp only
    refine VL.store (vc := [q8_2_0.parts.val, i64 q8_2_0.err]) (cs' := [q8_2_0.parts.val, i64 q8_2_0.err]) rfl rfl rfl gsz34 rfl rfl (Nat.le_of_ble_eq_true rfl) rfl ?_
    refine VL.to (fun _ _ h => h) ?_
    cases hS
    exact VC.ret (finG (vs := [.agg #[q8_2_0.parts.val, i64 q8_2_0.err]]) (.inr rfl) rfl (RVs.cell gagg34 rfl rfl Rd.blk (RVs.nil)) ⟨q8_2_0.parts, q8_2_0.err⟩ rfl rfl (by (try dsimp only); exact InM.out) (fun _ _ => trivial))
  ·
    replace hS := it_f h7 hS
    refine VC.skip_to (fun _ _ h => h) ?_
    refine VC.seq ?_
    refine VC.seq ?_
    refine VC.region ?_
    refine VL.q (q_assign rfl) (by decide) ?_
    refine VL.to (fun _ _ h => h) ?_
    refine VC.block ?_
    refine VC.iter (S := Int) (fun (i3_3 : Int) => i3_3) (fun (i3_3 : Int) => [(0, l_0.val), (2, ptr b2_1 0), (3, i64 i3_3)]) (fun (i3_3 : Int) => Mo.tt) (fun (i3_3 : Int) => Ow.star (Blk b2_1 [.slice none 0 0, i64 0] 34) (Ow.emp)) 0 [0, 2, 3] hS rfl ?_
    clear hS
    rintro i3_3 m1 y1 hS hK1
    show VC _ _ _ _ _ [(0, l_0.val), (2, ptr b2_1 0), (3, i64 i3_3)] (Mo.and Mo.tt _) (Ow.star (Blk b2_1 [.slice none 0 0, i64 0] 34) (Ow.emp))
    refine VC.seq ?_
    refine VC.seq ?_
    refine VC.region ?_
    refine VL.q (q_move rfl) (by decide) ?_
    refine VL.q (q_move rfl) (by decide) ?_
    refine VL.q (q_ln (s := l_0) Tryz.underlying44 rfl) (by decide) ?_
    refine VL.q (q_lss rfl rfl) (by decide) ?_
    refine VL.to (fun _ _ h => h) ?_
    refine VC.cond_dec rfl (fun h12 => ?_) (fun h12 => ?_)
    ·
      replace hS := it_t h12 hS
      refine VC.skip_to (fun _ _ h => h) ?_
      refine VC.seq ?_
      refine VC.block ?_
      refine VC.seq ?_
      refine VC.region ?_
      refine VL.q (q_move rfl) (by decide) ?_
      refine VL.q (q_move rfl) (by decide) ?_
      obtain ⟨y17_4, ey17_4, hS⟩ := bd_s hS
      refine VL.q (q_call (rectoref14_entry_ct l_0 i3_3 ey17_4) rfl (fun _ _ => rfl)) (by decide) ?_
      refine VL.q (q_assign rfl) (by decide) ?_
      refine VL.to (fun _ _ h => h) ?_
      refine VC.keep [0, 2, 3, 4] rfl ?_
      refine VC.seq ?_
      refine VC.region ?_
      refine VL.q (q_move rfl) (by decide) ?_
      refine VL.q (q_neq rfl rfl) (by decide) ?_
      refine VL.to (fun _ _ h => h) ?_
      refine VC.cond_ndec rfl (fun h19 => ?_) (fun h19 => ?_)
      ·
        replace hS := it_f h19 hS
        refine VC.seq ?_
        refine VC.region ?_
        refine VL.q (q_move rfl) (by decide) ?_
        refine VL.q (q_move rfl) (by decide) ?_
        obtain ⟨y22_5, ey22_5, hS⟩ := bd_s hS
        refine VL.callF (rectoref3_At_ct [101, 110, 116, 114, 121] i3_3 y17_4 ey22_5) rfl (by decide) ?_
        rintro q22_5_0 rfl
        try dsimp only
        refine VL.store (vc := [q22_5_0.parts.val, i64 q22_5_0.err]) (cs' := [q22_5_0.parts.val, i64 q22_5_0.err]) rfl rfl rfl gsz34 rfl rfl (Nat.le_of_ble_eq_true rfl) rfl ?_
        refine VL.to (fun _ _ h => h) ?_
        replace hS := up2 hS hK1
        cases hS
        exact VC.ret (finG (vs := [.agg #[q22_5_0.parts.val, i64 q22_5_0.err]]) (.inr rfl) rfl (RVs.cell gagg34 rfl rfl Rd.blk (RVs.nil)) ⟨q22_5_0.parts, q22_5_0.err⟩ rfl rfl (by (try dsimp only); exact InM.out) (fun _ _ => trivial))
      ·
        replace hS := it_t h19 hS
        refine VC.skip_to (fun _ _ h => h) ?_
        refine VC.region ?_
        refine VL.q (q_move rfl) (by decide) ?_
        obtain ⟨b14, hS⟩ := gd_s hS
        refine VL.q (q_add rfl rfl b14) (by decide) ?_
        refine VL.q (q_assign rfl) (by decide) ?_
        refine VL.rnd (i3_3 + 1) [0, 2, 3] (fun _ _ h => h) (go2 hS hK1) rfl
    ·
      replace hS := it_f h12 hS
      replace hS := up2 hS hK1
      refine VC.exit_to (fun _ _ h => h) ?_
      refine VC.seq ?_
      refine VC.region ?_
      refine VL.q (q_build (vs := []) (cs := #[.slice none 0 0, i64 0]) rfl (by kernel_rfl)) (by decide) ?_
      refine VL.store (vc := [.slice none 0 0, i64 0]) (cs' := [.slice none 0 0, i64 0]) rfl rfl rfl gsz34 rfl rfl (Nat.le_of_ble_eq_true rfl) rfl ?_
      refine VL.to (fun _ _ h => h) ?_
      cases hS
      exact VC.ret (finG (vs := [.agg #[.slice none 0 0, i64 0]]) (.inr rfl) rfl (RVs.cell gagg34 rfl rfl Rd.blk (RVs.nil)) ⟨⟨none, 0, []⟩, 0⟩ rfl rfl (by (try dsimp only); exact InM.out) (fun _ _ => trivial))

set_option maxHeartbeats 4000000 in
set_option maxRecDepth 100000 in
theorem rectoref14_before_ct (a_0 : Rectoref14Entry) (b_1 : Rectoref14Entry) {r : Bool} (hS : Sh.rectoref14_before a_0 b_1 = some r) :
    Ct Tryz.prog 62 [.agg #[str a_0.path, i64 a_0.stage, i64 a_0.mode, str a_0.data, i64 a_0.time, i64 a_0.size], .agg #[str b_1.path, i64 b_1.stage, i64 b_1.mode, str b_1.data, i64 b_1.time, i64 b_1.size]] Mo.tt (Ow.emp) (X := Unit) (fun _ => .bool r) (fun _ => True) (fun _ => Mo.tt) (fun _ => Ow.emp) := by
  refine Ct.of Tryz.func62 rfl (by kernel_rfl) Tryz.ntmps62 (by simp) fun c => ?_
  unfold Sh.rectoref14_before at hS
  refine VC.seq ?_
  refine VC.region ?_
  refine VL.box (cs := [str a_0.path, i64 a_0.stage, i64 a_0.mode, str a_0.data, i64 a_0.time, i64 a_0.size]) rfl rfl (by decide) fun b2_1 => ?_
  refine VL.box (cs := [str b_1.path, i64 b_1.stage, i64 b_1.mode, str b_1.data, i64 b_1.time, i64 b_1.size]) rfl rfl (by decide) fun b3_2 => ?_
  refine VL.q (q_assign rfl) (by decide) ?_
  refine VL.to (fun _ _ h => h) ?_
  refine VC.seq ?_
  refine VC.region ?_
  refine VL.q (q_field gfa51_0 rfl) (by decide) ?_
  refine VL.q (q_fe gone9 rfl rfl) (by decide) ?_
  refine VL.q (q_field gfa51_0 rfl) (by decide) ?_
  refine VL.q (q_fe gone9 rfl rfl) (by decide) ?_
  refine VL.q (q_slss rfl rfl) (by decide) ?_
  refine VL.q (q_move rfl) (by decide) ?_
  refine VL.split 10 rfl (fun h10 => ?_) (fun h10 => ?_)
  ·
    replace hS := it_t h10 hS
    refine VL.gn rfl rfl rfl (by decide) ?_
    refine VL.gn rfl rfl rfl (by decide) ?_
    refine VL.gn rfl rfl rfl (by decide) ?_
    refine VL.gn rfl rfl rfl (by decide) ?_
    refine VL.gn rfl rfl rfl (by decide) ?_
    refine VL.gn rfl rfl rfl (by decide) ?_
    refine VL.gu rfl rfl (by decide) ?_
    refine VL.gu rfl rfl (by decide) ?_
    refine VL.gu rfl rfl (by decide) ?_
    refine VL.gu rfl rfl (by decide) ?_
    refine VL.gu rfl rfl (by decide) ?_
    refine VL.gn rfl rfl rfl (by decide) ?_
    refine VL.q (q_pick_t rfl rfl) (by decide) ?_
    refine VL.q (q_assign rfl) (by decide) ?_
    refine VL.to (fun _ _ h => h) ?_
    refine VC.keep [4] rfl ?_
    cases hS
    exact VC.ret (fin1 (.inr rfl) rfl rfl () rfl trivial (fun _ _ => trivial) (fun _ _ => trivial))
  ·
    replace hS := it_b h10 hS
    refine VL.gy rfl rfl (q_field gfa51_0 rfl) (by decide) ?_
    refine VL.gy rfl rfl (q_fe gone9 rfl rfl) (by decide) ?_
    refine VL.gy rfl rfl (q_field gfa51_0 rfl) (by decide) ?_
    refine VL.gy rfl rfl (q_fe gone9 rfl rfl) (by decide) ?_
    refine VL.gy rfl rfl (q_seq rfl rfl) (by decide) ?_
    refine VL.gy rfl rfl (q_move rfl) (by decide) ?_
    refine VL.split_dec 16 rfl (fun h16 => ?_) (fun h16 => ?_)
    ·
      replace hS := it_t h16 hS
      refine VL.gy rfl rfl (q_field gfa51_1 rfl) (by decide) ?_
      refine VL.gy rfl rfl (q_fe gone3 rfl rfl) (by decide) ?_
      refine VL.gy rfl rfl (q_field gfa51_1 rfl) (by decide) ?_
      refine VL.gy rfl rfl (q_fe gone3 rfl rfl) (by decide) ?_
      refine VL.gy rfl rfl (q_lss rfl rfl) (by decide) ?_
      refine VL.gy rfl rfl (q_pick_t rfl rfl) (by decide) ?_
      refine VL.q (q_pick_f rfl rfl) (by decide) ?_
      refine VL.q (q_assign rfl) (by decide) ?_
      refine VL.to (fun _ _ h => h) ?_
      refine VC.keep [4] rfl ?_
      cases hS
      exact VC.ret (fin1 (.inr rfl) rfl rfl () rfl trivial (fun _ _ => trivial) (fun _ _ => trivial))
    ·
      replace hS := it_f h16 hS
      refine VL.gn rfl rfl rfl (by decide) ?_
      refine VL.gn rfl rfl rfl (by decide) ?_
      refine VL.gn rfl rfl rfl (by decide) ?_
      refine VL.gn rfl rfl rfl (by decide) ?_
      refine VL.gn rfl rfl rfl (by decide) ?_
      refine VL.gy rfl rfl (q_pick_f rfl rfl) (by decide) ?_
      refine VL.q (q_pick_f rfl rfl) (by decide) ?_
      refine VL.q (q_assign rfl) (by decide) ?_
      refine VL.to (fun _ _ h => h) ?_
      refine VC.keep [4] rfl ?_
      cases hS
      exact VC.ret (fin1 (.inr rfl) rfl rfl () rfl trivial (fun _ _ => trivial) (fun _ _ => trivial))

set_option maxHeartbeats 4000000 in
set_option maxRecDepth 100000 in
theorem rectoref14_PutEntry_ct (l_0 : Sv Rectoref14Entry) (e_1 : Rectoref14Entry) {r : List Rectoref14Entry} (hS : Sh.rectoref14_PutEntry l_0.l e_1 = some r) :
    Ct Tryz.prog 17 [l_0.val, .agg #[str e_1.path, i64 e_1.stage, i64 e_1.mode, str e_1.data, i64 e_1.time, i64 e_1.size]] l_0.ok (Ow.emp) (X := Sv Rectoref14Entry) (fun x => x.val) (fun x => r = x.l) (fun x => Mo.tt) (fun x => Sv.own x 51) := by
  refine Ct.of Tryz.func17 rfl (by kernel_rfl) Tryz.ntmps17 (by simp) fun c => ?_
  unfold Sh.rectoref14_PutEntry at hS
  refine VC.seq ?_
  refine VC.region ?_
  refine VL.box (cs := [str e_1.path, i64 e_1.stage, i64 e_1.mode, str e_1.data, i64 e_1.time, i64 e_1.size]) rfl rfl (by decide) fun b3_1 => ?_
  refine VL.q (q_assign rfl) (by decide) ?_
  refine VL.to (fun _ _ h => h) ?_
  refine VC.seq ?_
  refine VC.region ?_
  refine VL.q (q_assign rfl) (by decide) ?_
  refine VL.to (fun _ _ h => h) ?_
  refine VC.seq ?_
  refine VC.region ?_
  refine VL.q (q_assign rfl) (by decide) ?_
  refine VL.to (fun _ _ h => h) ?_
  refine VC.seq ?_
  refine VC.seq ?_
  refine VC.region ?_
  refine VL.q (q_assign rfl) (by decide) ?_
  refine VL.to (fun _ _ h => h) ?_
  refine VC.block ?_
  refine VC.nilO (⟨none, 0, []⟩ : Sv Rectoref14Entry) 51 ⟨rfl, rfl⟩ ?_
  refine VC.iter (S := Sv Rectoref14Entry × Bool × Int) (fun sg => (sg.1.l, sg.2.1, sg.2.2)) (fun sg => [(0, l_0.val), (3, ptr b3_1 0), (5, sg.1.val), (6, .bool sg.2.1), (7, i64 sg.2.2)]) (fun sg => Mo.tt) (fun sg => Ow.star (Blk b3_1 [str e_1.path, i64 e_1.stage, i64 e_1.mode, str e_1.data, i64 e_1.time, i64 e_1.size] 51) (Ow.star (Sv.own sg.1 51) (Ow.emp))) (⟨none, 0, []⟩, false, 0) [0, 3, 5, 6, 7] hS rfl ?_
  clear hS
  rintro ⟨out5_2, put6_3, i7_4⟩ m1 y1 hS hK1
  show VC _ _ _ _ _ [(0, l_0.val), (3, ptr b3_1 0), (5, out5_2.val), (6, .bool put6_3), (7, i64 i7_4)] (Mo.and Mo.tt _) (Ow.star (Blk b3_1 [str e_1.path, i64 e_1.stage, i64 e_1.mode, str e_1.data, i64 e_1.time, i64 e_1.size] 51) (Ow.star (Sv.own out5_2 51) (Ow.emp)))
  refine VC.seq ?_
  refine VC.seq ?_
  refine VC.region ?_
  refine VL.q (q_move rfl) (by decide) ?_
  refine VL.q (q_move rfl) (by decide) ?_
  refine VL.q (q_ln (s := l_0) Tryz.underlying44 rfl) (by decide) ?_
  refine VL.q (q_lss rfl rfl) (by decide) ?_
  refine VL.to (fun _ _ h => h) ?_
  refine VC.cond_dec rfl (fun h13 => ?_) (fun h13 => ?_)
  ·
    replace hS := it_t h13 hS
    refine VC.skip_to (fun _ _ h => h) ?_
    refine VC.cutJ (S := Sv Rectoref14Entry × Bool) (fun sg => (sg.1.l, sg.2)) (fun sg => [(0, l_0.val), (3, ptr b3_1 0), (5, sg.1.val), (6, .bool sg.2), (7, i64 i7_4)]) (fun sg => Mo.tt) (fun sg => Ow.star (Blk b3_1 [str e_1.path, i64 e_1.stage, i64 e_1.mode, str e_1.data, i64 e_1.time, i64 e_1.size] 51) (Ow.star (Sv.own sg.1 51) (Ow.emp))) hS ?_ ?_
    · -- up to where ways meet
      clear hS
      intro k7 hS
      refine VC.block ?_
      refine VC.seq ?_
      refine VC.region ?_
      refine VL.q (q_move rfl) (by decide) ?_
      refine VL.q (q_move rfl) (by decide) ?_
      obtain ⟨z18_8, nz18_8, hz18_8, hS⟩ := at_s hS
      refine VL.q (q_ixm (s := l_0) Tryz.underlying44 gsz51 rfl rfl nz18_8 (lt_of_get nz18_8 hz18_8)) (by decide) ?_
      refine VL.q (q_els (s := l_0) gagg51 rfl rfl hz18_8) (by decide) ?_
      refine VL.alloc (cs := [str [], i64 0, i64 0, str [], i64 0, i64 0]) (by kernel_rfl) (by decide) fun b8_9 => ?_
      refine VL.store (vc := [str z18_8.path, i64 z18_8.stage, i64 z18_8.mode, str z18_8.data, i64 z18_8.time, i64 z18_8.size]) (cs' := [str z18_8.path, i64 z18_8.stage, i64 z18_8.mode, str z18_8.data, i64 z18_8.time, i64 z18_8.size]) rfl rfl rfl gsz51 rfl rfl (Nat.le_of_ble_eq_true rfl) rfl ?_
      refine VL.to (fun _ _ h => h) ?_
      refine VC.keep [0, 3, 5, 6, 7, 8] rfl ?_
      refine VC.cutJ (S := Bool) (fun (gone9_10 : Bool) => gone9_10) (fun (gone9_10 : Bool) => [(0, l_0.val), (3, ptr b3_1 0), (5, out5_2.val), (6, .bool put6_3), (7, i64 i7_4), (8, ptr b8_9 0), (9, .bool gone9_10)]) (fun (gone9_10 : Bool) => Mo.tt) (fun (gone9_10 : Bool) => Ow.star (Blk b8_9 [str z18_8.path, i64 z18_8.stage, i64 z18_8.mode, str z18_8.data, i64 z18_8.time, i64 z18_8.size] 51) (Ow.star (Blk b3_1 [str e_1.path, i64 e_1.stage, i64 e_1.mode, str e_1.data, i64 e_1.time, i64 e_1.size] 51) (Ow.star (Sv.own out5_2 51) (Ow.emp)))) hS ?_ ?_
      · -- up to where ways meet
        clear hS
        intro k11 hS
        refine VC.region ?_
        refine VL.q (q_field gfa51_0 rfl) (by decide) ?_
        refine VL.q (q_fe gone9 rfl rfl) (by decide) ?_
        refine VL.q (q_field gfa51_0 rfl) (by decide) ?_
        refine VL.q (q_fe gone9 rfl rfl) (by decide) ?_
        obtain ⟨y24_12, ey24_12, hS⟩ := bd_s hS
        refine VL.q (q_call (rectoref1_Clash_ct z18_8.path e_1.path ey24_12) rfl (fun _ _ => rfl)) (by decide) ?_
        refine VL.q (q_move rfl) (by decide) ?_
        refine VL.split 25 rfl (fun h25 => ?_) (fun h25 => ?_)
        ·
          replace hS := it_t h25 hS
          refine VL.gn rfl rfl rfl (by decide) ?_
          refine VL.gn rfl rfl rfl (by decide) ?_
          refine VL.gn rfl rfl rfl (by decide) ?_
          refine VL.gn rfl rfl rfl (by decide) ?_
          refine VL.gn rfl rfl rfl (by decide) ?_
          refine VL.gn rfl rfl rfl (by decide) ?_
          refine VL.gu rfl rfl (by decide) ?_
          refine VL.gu rfl rfl (by decide) ?_
          refine VL.gu rfl rfl (by decide) ?_
          refine VL.gu rfl rfl (by decide) ?_
          refine VL.gu rfl rfl (by decide) ?_
          refine VL.gu rfl rfl (by decide) ?_
          refine VL.gu rfl rfl (by decide) ?_
          refine VL.gu rfl rfl (by decide) ?_
          refine VL.gu rfl rfl (by decide) ?_
          refine VL.gu rfl rfl (by decide) ?_
          refine VL.gu rfl rfl (by decide) ?_
          refine VL.gu rfl rfl (by decide) ?_
          refine VL.gu rfl rfl (by decide) ?_
          refine VL.gu rfl rfl (by decide) ?_
          refine VL.gu rfl rfl (by decide) ?_
          refine VL.gn rfl rfl rfl (by decide) ?_
          refine VL.q (q_pick_t rfl rfl) (by decide) ?_
          refine VL.q (q_assign rfl) (by decide) ?_
          refine VL.mt true [0, 3, 5, 6, 7, 8, 9] (fun _ _ h => h) hS rfl
        ·
          replace hS := it_b h25 hS
          refine VL.gy rfl rfl (q_field gfa51_0 rfl) (by decide) ?_
          refine VL.gy rfl rfl (q_fe gone9 rfl rfl) (by decide) ?_
          refine VL.gy rfl rfl (q_field gfa51_0 rfl) (by decide) ?_
          refine VL.gy rfl rfl (q_fe gone9 rfl rfl) (by decide) ?_
          refine VL.gy rfl rfl (q_seq rfl rfl) (by decide) ?_
          refine VL.gy rfl rfl (q_move rfl) (by decide) ?_
          refine VL.split_dec 31 rfl (fun h31 => ?_) (fun h31 => ?_)
          ·
            replace hS := it_t h31 hS
            refine VL.gy rfl rfl (q_field gfa51_1 rfl) (by decide) ?_
            refine VL.gy rfl rfl (q_fe gone3 rfl rfl) (by decide) ?_
            refine VL.gy rfl rfl (q_eql rfl rfl) (by decide) ?_
            refine VL.gy rfl rfl (q_move rfl) (by decide) ?_
            refine VL.split_dec 35 rfl (fun h35 => ?_) (fun h35 => ?_)
            ·
              replace hS := it_t h35 hS
              refine VL.gn rfl rfl rfl (by decide) ?_
              refine VL.gn rfl rfl rfl (by decide) ?_
              refine VL.gn rfl rfl rfl (by decide) ?_
              refine VL.gy rfl rfl (q_pick_t rfl rfl) (by decide) ?_
              refine VL.gy rfl rfl (q_move rfl) (by decide) ?_
              refine VL.gn rfl rfl rfl (by decide) ?_
              refine VL.gn rfl rfl rfl (by decide) ?_
              refine VL.gn rfl rfl rfl (by decide) ?_
              refine VL.gn rfl rfl rfl (by decide) ?_
              refine VL.gn rfl rfl rfl (by decide) ?_
              refine VL.gy rfl rfl (q_pick_t rfl rfl) (by decide) ?_
              refine VL.gy rfl rfl (q_pick_t rfl rfl) (by decide) ?_
              refine VL.q (q_pick_f rfl rfl) (by decide) ?_
              refine VL.q (q_assign rfl) (by decide) ?_
              refine VL.mt true [0, 3, 5, 6, 7, 8, 9] (fun _ _ h => h) hS rfl
            ·
              replace hS := it_f h35 hS
              refine VL.gy rfl rfl (q_field gfa51_1 rfl) (by decide) ?_
              refine VL.gy rfl rfl (q_fe gone3 rfl rfl) (by decide) ?_
              refine VL.gy rfl rfl (q_eql rfl rfl) (by decide) ?_
              refine VL.gy rfl rfl (q_pick_f rfl rfl) (by decide) ?_
              refine VL.gy rfl rfl (q_move rfl) (by decide) ?_
              refine VL.split_dec 40 rfl (fun h40 => ?_) (fun h40 => ?_)
              ·
                replace hS := it_t h40 hS
                refine VL.gn rfl rfl rfl (by decide) ?_
                refine VL.gn rfl rfl rfl (by decide) ?_
                refine VL.gn rfl rfl rfl (by decide) ?_
                refine VL.gn rfl rfl rfl (by decide) ?_
                refine VL.gn rfl rfl rfl (by decide) ?_
                refine VL.gy rfl rfl (q_pick_t rfl rfl) (by decide) ?_
                refine VL.gy rfl rfl (q_pick_t rfl rfl) (by decide) ?_
                refine VL.q (q_pick_f rfl rfl) (by decide) ?_
                refine VL.q (q_assign rfl) (by decide) ?_
                refine VL.mt true [0, 3, 5, 6, 7, 8, 9] (fun _ _ h => h) hS rfl
              ·
                replace hS := it_f h40 hS
                refine VL.gy rfl rfl (q_field gfa51_1 rfl) (by decide) ?_
                refine VL.gy rfl rfl (q_fe gone3 rfl rfl) (by decide) ?_
                refine VL.gy rfl rfl (q_field gfa51_1 rfl) (by decide) ?_
                refine VL.gy rfl rfl (q_fe gone3 rfl rfl) (by decide) ?_
                refine VL.gy rfl rfl (q_eql rfl rfl) (by decide) ?_
                refine VL.gy rfl rfl (q_pick_f rfl rfl) (by decide) ?_
                refine VL.gy rfl rfl (q_pick_t rfl rfl) (by decide) ?_
                refine VL.q (q_pick_f rfl rfl) (by decide) ?_
                refine VL.q (q_assign rfl) (by decide) ?_
                refine VL.mt (decide (z18_8.stage = e_1.stage)) [0, 3, 5, 6, 7, 8, 9] (fun _ _ h => h) hS rfl
          ·
            replace hS := it_f h31 hS
            refine VL.gn rfl rfl rfl (by decide) ?_
            refine VL.gn rfl rfl rfl (by decide) ?_
            refine VL.gn rfl rfl rfl (by decide) ?_
            refine VL.gn rfl rfl rfl (by decide) ?_
            refine VL.gu rfl rfl (by decide) ?_
            refine VL.gu rfl rfl (by decide) ?_
            refine VL.gu rfl rfl (by decide) ?_
            refine VL.gn rfl rfl rfl (by decide) ?_
            refine VL.gn rfl rfl rfl (by decide) ?_
            refine VL.gu rfl rfl (by decide) ?_
            refine VL.gu rfl rfl (by decide) ?_
            refine VL.gu rfl rfl (by decide) ?_
            refine VL.gu rfl rfl (by decide) ?_
            refine VL.gu rfl rfl (by decide) ?_
            refine VL.gn rfl rfl rfl (by decide) ?_
            refine VL.gy rfl rfl (q_pick_f rfl rfl) (by decide) ?_
            refine VL.q (q_pick_f rfl rfl) (by decide) ?_
            refine VL.q (q_assign rfl) (by decide) ?_
            refine VL.mt false [0, 3, 5, 6, 7, 8, 9] (fun _ _ h => h) hS rfl
      · -- from there
        clear hS
        rintro gone9_10 hS
        show VC _ _ _ _ _ [(0, l_0.val), (3, ptr b3_1 0), (5, out5_2.val), (6, .bool put6_3), (7, i64 i7_4), (8, ptr b8_9 0), (9, .bool gone9_10)] (Mo.and Mo.tt _) (Ow.star (Blk b8_9 [str z18_8.path, i64 z18_8.stage, i64 z18_8.mode, str z18_8.data, i64 z18_8.time, i64 z18_8.size] 51) (Ow.star (Blk b3_1 [str e_1.path, i64 e_1.stage, i64 e_1.mode, str e_1.data, i64 e_1.time, i64 e_1.size] 51) (Ow.star (Sv.own out5_2 51) (Ow.emp))))
        refine VC.cutJ (S := Sv Rectoref14Entry × Bool) (fun sg => (sg.1.l, sg.2)) (fun sg => [(0, l_0.val), (3, ptr b3_1 0), (5, sg.1.val), (6, .bool sg.2), (7, i64 i7_4), (8, ptr b8_9 0), (9, .bool gone9_10)]) (fun sg => Mo.tt) (fun sg => Ow.star (Blk b8_9 [str z18_8.path, i64 z18_8.stage, i64 z18_8.mode, str z18_8.data, i64 z18_8.time, i64 z18_8.size] 51) (Ow.star (Blk b3_1 [str e_1.path, i64 e_1.stage, i64 e_1.mode, str e_1.data, i64 e_1.time, i64 e_1.size] 51) (Ow.star (Sv.own sg.1 51) (Ow.emp)))) hS ?_ ?_
        · -- up to where ways meet
          clear hS
          intro k15 hS
          refine VC.cutJ (S := Bool) (fun (x55_16 : Bool) => x55_16) (fun (x55_16 : Bool) => [(0, l_0.val), (3, ptr b3_1 0), (5, out5_2.val), (6, .bool put6_3), (7, i64 i7_4), (8, ptr b8_9 0), (9, .bool gone9_10), (55, .bool x55_16)]) (fun (x55_16 : Bool) => Mo.tt) (fun (x55_16 : Bool) => Ow.star (Blk b8_9 [str z18_8.path, i64 z18_8.stage, i64 z18_8.mode, str z18_8.data, i64 z18_8.time, i64 z18_8.size] 51) (Ow.star (Blk b3_1 [str e_1.path, i64 e_1.stage, i64 e_1.mode, str e_1.data, i64 e_1.time, i64 e_1.size] 51) (Ow.star (Sv.own out5_2 51) (Ow.emp)))) hS ?_ ?_
          · -- up to where ways meet
            clear hS
            intro k17 hS
            refine VC.region ?_
            refine VL.q (q_move rfl) (by decide) ?_
            refine VL.q (q_not rfl) (by decide) ?_
            refine VL.q (q_move rfl) (by decide) ?_
            refine VL.split 51 rfl (fun h51 => ?_) (fun h51 => ?_)
            ·
              replace hS := it_t h51 hS
              refine VL.gy rfl rfl (q_fes gagg51 rfl rfl) (by decide) ?_
              refine VL.gy rfl rfl (q_fes gagg51 rfl rfl) (by decide) ?_
              obtain ⟨y54_18, ey54_18, hS⟩ := bd_s hS
              refine VL.gy rfl rfl (q_call (rectoref14_before_ct e_1 z18_8 ey54_18) rfl (fun _ _ => rfl)) (by decide) ?_
              refine VL.q (q_pick_t rfl rfl) (by decide) ?_
              refine VL.mt y54_18 [0, 3, 5, 6, 7, 8, 9, 55] (fun _ _ h => h) hS rfl
            ·
              replace hS := it_b h51 hS
              refine VL.gn rfl rfl rfl (by decide) ?_
              refine VL.gn rfl rfl rfl (by decide) ?_
              refine VL.gn rfl rfl rfl (by decide) ?_
              refine VL.q (q_pick_f rfl rfl) (by decide) ?_
              refine VL.mt false [0, 3, 5, 6, 7, 8, 9, 55] (fun _ _ h => h) hS rfl
          · -- from there
            clear hS
            rintro x55_16 hS
            show VC _ _ _ _ _ [(0, l_0.val), (3, ptr b3_1 0), (5, out5_2.val), (6, .bool put6_3), (7, i64 i7_4), (8, ptr b8_9 0), (9, .bool gone9_10), (55, .bool x55_16)] (Mo.and Mo.tt _) (Ow.star (Blk b8_9 [str z18_8.path, i64 z18_8.stage, i64 z18_8.mode, str z18_8.data, i64 z18_8.time, i64 z18_8.size] 51) (Ow.star (Blk b3_1 [str e_1.path, i64 e_1.stage, i64 e_1.mode, str e_1.data, i64 e_1.time, i64 e_1.size] 51) (Ow.star (Sv.own out5_2 51) (Ow.emp))))
            refine VC.cond rfl (fun h55 => ?_) (fun h55 => ?_)
            ·
              replace hS := it_t h55 hS
              refine VC.seq ?_
              refine VC.region ?_
              refine VL.q (q_move rfl) (by decide) ?_
              refine VL.q (q_fes gagg51 rfl rfl) (by decide) ?_
              refine VL.lit (α := Rectoref14Entry) (xs := [.tmp 57]) (vs := [.agg #[str e_1.path, i64 e_1.stage, i64 e_1.mode, str e_1.data, i64 e_1.time, i64 e_1.size]]) [⟨e_1.path, e_1.stage, e_1.mode, e_1.data, e_1.time, e_1.size⟩] Tryz.underlying44 glit51 (by decide) rfl rfl rfl rfl (by decide) (fun _ _ _ _ => trivial) (by decide) (fun s58_19 hs58_19 => ?_) (by decide)
              replace hS := lt_to hs58_19 hS
              obtain ⟨b59, hS⟩ := gd_s hS
              refine VL.app (s := out5_2) (r := s58_19) Tryz.underlying44 gapp51 (by decide) rfl Fo.out (ap1 b59) (ap2 b59 (by decide)) (by decide) (fun s59_21 hs59_21 => ?_)
              replace hS := lt_to hs59_21 hS
              refine VL.q (q_assign rfl) (by decide) ?_
              refine VL.to (fun _ _ h => h) ?_
              refine VC.region ?_
              refine VL.q (q_assign rfl) (by decide) ?_
              refine VL.mt (s59_21, true) [0, 3, 5, 6, 7, 8, 9] (fun _ _ h => h) hS rfl
            ·
              replace hS := it_b h55 hS
              refine VC.skip_mt (out5_2, put6_3) [0, 3, 5, 6, 7, 8, 9] (fun _ _ h => h) hS rfl
        · -- from there
          clear hS
          rintro ⟨out5_13, put6_14⟩ hS
          show VC _ _ _ _ _ [(0, l_0.val), (3, ptr b3_1 0), (5, out5_13.val), (6, .bool put6_14), (7, i64 i7_4), (8, ptr b8_9 0), (9, .bool gone9_10)] (Mo.and Mo.tt _) (Ow.star (Blk b8_9 [str z18_8.path, i64 z18_8.stage, i64 z18_8.mode, str z18_8.data, i64 z18_8.time, i64 z18_8.size] 51) (Ow.star (Blk b3_1 [str e_1.path, i64 e_1.stage, i64 e_1.mode, str e_1.data, i64 e_1.time, i64 e_1.size] 51) (Ow.star (Sv.own out5_13 51) (Ow.emp))))
          refine VC.seq ?_
          refine VC.region ?_
          refine VL.q (q_move rfl) (by decide) ?_
          refine VL.q (q_not rfl) (by decide) ?_
          refine VL.to (fun _ _ h => h) ?_
          refine VC.cond rfl (fun h61 => ?_) (fun h61 => ?_)
          ·
            replace hS := it_t h61 hS
            refine VC.region ?_
            refine VL.q (q_move rfl) (by decide) ?_
            refine VL.q (q_fes gagg51 rfl rfl) (by decide) ?_
            refine VL.lit (α := Rectoref14Entry) (xs := [.tmp 63]) (vs := [.agg #[str z18_8.path, i64 z18_8.stage, i64 z18_8.mode, str z18_8.data, i64 z18_8.time, i64 z18_8.size]]) [⟨z18_8.path, z18_8.stage, z18_8.mode, z18_8.data, z18_8.time, z18_8.size⟩] Tryz.underlying44 glit51 (by decide) rfl rfl rfl rfl (by decide) (fun _ _ _ _ => trivial) (by decide) (fun s64_23 hs64_23 => ?_) (by decide)
            replace hS := lt_to hs64_23 hS
            obtain ⟨b65, hS⟩ := gd_s hS
            refine VL.app (s := out5_13) (r := s64_23) Tryz.underlying44 gapp51 (by decide) rfl Fo.out (ap1 b65) (ap2 b65 (by decide)) (by decide) (fun s65_25 hs65_25 => ?_)
            replace hS := lt_to hs65_25 hS
            refine VL.q (q_assign rfl) (by decide) ?_
            refine VL.mt (s65_25, put6_14) [0, 3, 5, 6, 7] (fun _ _ h => h) hS rfl
          ·
            replace hS := it_b h61 hS
            refine VC.skip_mt (out5_13, put6_14) [0, 3, 5, 6, 7] (fun _ _ h => h) hS rfl
    · -- from there
      clear hS
      rintro ⟨out5_5, put6_6⟩ hS
      show VC _ _ _ _ _ [(0, l_0.val), (3, ptr b3_1 0), (5, out5_5.val), (6, .bool put6_6), (7, i64 i7_4)] (Mo.and Mo.tt _) (Ow.star (Blk b3_1 [str e_1.path, i64 e_1.stage, i64 e_1.mode, str e_1.data, i64 e_1.time, i64 e_1.size] 51) (Ow.star (Sv.own out5_5 51) (Ow.emp)))
      refine VC.region ?_
      refine VL.q (q_move rfl) (by decide) ?_
      obtain ⟨b15, hS⟩ := gd_s hS
      refine VL.q (q_add rfl rfl b15) (by decide) ?_
      refine VL.q (q_assign rfl) (by decide) ?_
      refine VL.rnd (out5_5, put6_6, (i7_4 + 1)) [0, 3, 5, 6, 7] (fun _ _ h => h) (go2 hS hK1) rfl
  ·
    replace hS := it_f h13 hS
    replace hS := up2 hS hK1
    refine VC.exit_to (fun _ _ h => h) ?_
    refine VC.seq ?_
    refine VC.seq ?_
    refine VC.region ?_
    refine VL.q (q_move rfl) (by decide) ?_
    refine VL.q (q_not rfl) (by decide) ?_
    refine VL.to (fun _ _ h => h) ?_
    refine VC.keep [3, 5, 67] rfl ?_
    refine VC.cond rfl (fun h67 => ?_) (fun h67 => ?_)
    ·
      replace hS := it_t h67 hS
      refine VC.region ?_
      refine VL.q (q_move rfl) (by decide) ?_
      refine VL.q (q_fes gagg51 rfl rfl) (by decide) ?_
      refine VL.lit (α := Rectoref14Entry) (xs := [.tmp 69]) (vs := [.agg #[str e_1.path, i64 e_1.stage, i64 e_1.mode, str e_1.data, i64 e_1.time, i64 e_1.size]]) [⟨e_1.path, e_1.stage, e_1.mode, e_1.data, e_1.time, e_1.size⟩] Tryz.underlying44 glit51 (by decide) rfl rfl rfl rfl (by decide) (fun _ _ _ _ => trivial) (by decide) (fun s70_27 hs70_27 => ?_) (by decide)
      replace hS := lt_to hs70_27 hS
      obtain ⟨b71, hS⟩ := gd_s hS
      refine VL.app (s := out5_2) (r := s70_27) Tryz.underlying44 gapp51 (by decide) rfl Fo.out (ap1 b71) (ap2 b71 (by decide)) (by decide) (fun s71_29 hs71_29 => ?_)
      replace hS := lt_to hs71_29 hS
      refine VL.q (q_assign rfl) (by decide) ?_
      refine VL.to (fun _ _ h => h) ?_
      refine VC.seq ?_
      refine VC.region ?_
      refine VL.q (q_move rfl) (by decide) ?_
      refine VL.q (q_assign rfl) (by decide) ?_
      refine VL.to (fun _ _ h => h) ?_
      cases hS
      exact VC.ret (fin1 (.inr rfl) rfl rfl s71_29 rfl rfl (by (try dsimp only); exact InM.out) (by (try dsimp only); exact EntO.out))
    ·
      replace hS := it_b h67 hS
      refine VC.skip_to (fun _ _ h => h) ?_
      refine VC.seq ?_
      refine VC.region ?_
      refine VL.q (q_move rfl) (by decide) ?_
      refine VL.q (q_assign rfl) (by decide) ?_
      refine VL.to (fun _ _ h => h) ?_
      cases hS
      exact VC.ret (fin1 (.inr rfl) rfl rfl out5_2 rfl rfl (by (try dsimp only); exact InM.out) (by (try dsimp only); exact EntO.out))

set_option maxHeartbeats 4000000 in
set_option maxRecDepth 100000 in
theorem rectoref14_Drop_ct (l_0 : Sv Rectoref14Entry) (p_1 : Str) {r : List Rectoref14Entry} (hS : Sh.rectoref14_Drop l_0.l p_1 = some r) :
    Ct Tryz.prog 19 [l_0.val, str p_1] l_0.ok (Ow.emp) (X := Sv Rectoref14Entry) (fun x => x.val) (fun x => r = x.l) (fun x => Mo.tt) (fun x => Sv.own x 51) := by
  refine Ct.of Tryz.func19 rfl (by kernel_rfl) Tryz.ntmps19 (by simp) fun c => ?_
  unfold Sh.rectoref14_Drop at hS
  refine VC.seq ?_
  refine VC.region ?_
  refine VL.q (q_assign rfl) (by decide) ?_
  refine VL.to (fun _ _ h => h) ?_
  refine VC.seq ?_
  refine VC.region ?_
  refine VL.q (q_assign rfl) (by decide) ?_
  refine VL.to (fun _ _ h => h) ?_
  refine VC.seq ?_
  refine VC.seq ?_
  refine VC.region ?_
  refine VL.q (q_assign rfl) (by decide) ?_
  refine VL.to (fun _ _ h => h) ?_
  refine VC.block ?_
  refine VC.nilO (⟨none, 0, []⟩ : Sv Rectoref14Entry) 51 ⟨rfl, rfl⟩ ?_
  refine VC.iter (S := Sv Rectoref14Entry × Int) (fun sg => (sg.1.l, sg.2)) (fun sg => [(0, l_0.val), (1, str p_1), (5, sg.1.val), (6, i64 sg.2)]) (fun sg => Mo.tt) (fun sg => Ow.star (Sv.own sg.1 51) (Ow.emp)) (⟨none, 0, []⟩, 0) [0, 1, 5, 6] hS rfl ?_
  clear hS
  rintro ⟨out5_1, i6_2⟩ m1 y1 hS hK1
  show VC _ _ _ _ _ [(0, l_0.val), (1, str p_1), (5, out5_1.val), (6, i64 i6_2)] (Mo.and Mo.tt _) (Ow.star (Sv.own out5_1 51) (Ow.emp))
  refine VC.seq ?_
  refine VC.seq ?_
  refine VC.region ?_
  refine VL.q (q_move rfl) (by decide) ?_
  refine VL.q (q_move rfl) (by decide) ?_
  refine VL.q (q_ln (s := l_0) Tryz.underlying44 rfl) (by decide) ?_
  refine VL.q (q_lss rfl rfl) (by decide) ?_
  refine VL.to (fun _ _ h => h) ?_
  refine VC.cond_dec rfl (fun h10 => ?_) (fun h10 => ?_)
  ·
    replace hS := it_t h10 hS
    refine VC.skip_to (fun _ _ h => h) ?_
    refine VC.cutJ (S := Sv Rectoref14Entry) (fun (out5_3 : Sv Rectoref14Entry) => out5_3.l) (fun (out5_3 : Sv Rectoref14Entry) => [(0, l_0.val), (1, str p_1), (5, out5_3.val), (6, i64 i6_2)]) (fun (out5_3 : Sv Rectoref14Entry) => Mo.tt) (fun (out5_3 : Sv Rectoref14Entry) => Ow.star (Sv.own out5_3 51) (Ow.emp)) hS ?_ ?_
    · -- up to where ways meet
      clear hS
      intro k4 hS
      refine VC.block ?_
      refine VC.seq ?_
      refine VC.region ?_
      refine VL.q (q_move rfl) (by decide) ?_
      refine VL.q (q_move rfl) (by decide) ?_
      obtain ⟨z15_5, nz15_5, hz15_5, hS⟩ := at_s hS
      refine VL.q (q_ixm (s := l_0) Tryz.underlying44 gsz51 rfl rfl nz15_5 (lt_of_get nz15_5 hz15_5)) (by decide) ?_
      refine VL.q (q_field gfa51_0 rfl) (by decide) ?_
      refine VL.q (q_elf (s := l_0) gone9 rfl hz15_5 rfl) (by decide) ?_
      refine VL.q (q_move rfl) (by decide) ?_
      refine VL.q (q_sne rfl rfl) (by decide) ?_
      refine VL.to (fun _ _ h => h) ?_
      refine VC.keep [0, 1, 5, 6, 19] rfl ?_
      refine VC.cond_ndec rfl (fun h19 => ?_) (fun h19 => ?_)
      ·
        replace hS := it_f h19 hS
        refine VC.region ?_
        refine VL.q (q_move rfl) (by decide) ?_
        refine VL.q (q_move rfl) (by decide) ?_
        refine VL.q (q_move rfl) (by decide) ?_
        obtain ⟨z23_6, nz23_6, hz23_6, hS⟩ := at_s hS
        refine VL.q (q_ixm (s := l_0) Tryz.underlying44 gsz51 rfl rfl nz23_6 (lt_of_get nz23_6 hz23_6)) (by decide) ?_
        refine VL.q (q_els (s := l_0) gagg51 rfl rfl hz23_6) (by decide) ?_
        refine VL.lit (α := Rectoref14Entry) (xs := [.tmp 24]) (vs := [.agg #[str z23_6.path, i64 z23_6.stage, i64 z23_6.mode, str z23_6.data, i64 z23_6.time, i64 z23_6.size]]) [⟨z23_6.path, z23_6.stage, z23_6.mode, z23_6.data, z23_6.time, z23_6.size⟩] Tryz.underlying44 glit51 (by decide) rfl rfl rfl rfl (by decide) (fun _ _ _ _ => trivial) (by decide) (fun s25_7 hs25_7 => ?_) (by decide)
        replace hS := lt_to hs25_7 hS
        obtain ⟨b26, hS⟩ := gd_s hS
        refine VL.app (s := out5_1) (r := s25_7) Tryz.underlying44 gapp51 (by decide) rfl Fo.out (ap1 b26) (ap2 b26 (by decide)) (by decide) (fun s26_9 hs26_9 => ?_)
        replace hS := lt_to hs26_9 hS
        refine VL.q (q_assign rfl) (by decide) ?_
        refine VL.mt s26_9 [0, 1, 5, 6] (fun _ _ h => h) hS rfl
      ·
        replace hS := it_t h19 hS
        refine VC.skip_mt out5_1 [0, 1, 5, 6] (fun _ _ h => h) hS rfl
    · -- from there
      clear hS
      rintro out5_3 hS
      show VC _ _ _ _ _ [(0, l_0.val), (1, str p_1), (5, out5_3.val), (6, i64 i6_2)] (Mo.and Mo.tt _) (Ow.star (Sv.own out5_3 51) (Ow.emp))
      refine VC.region ?_
      refine VL.q (q_move rfl) (by decide) ?_
      obtain ⟨b12, hS⟩ := gd_s hS
      refine VL.q (q_add rfl rfl b12) (by decide) ?_
      refine VL.q (q_assign rfl) (by decide) ?_
      refine VL.rnd (out5_3, (i6_2 + 1)) [0, 1, 5, 6] (fun _ _ h => h) (go2 hS hK1) rfl
  ·
    replace hS := it_f h10 hS
    replace hS := up2 hS hK1
    refine VC.exit_to (fun _ _ h => h) ?_
    refine VC.seq ?_
    refine VC.region ?_
    refine VL.q (q_move rfl) (by decide) ?_
    refine VL.q (q_assign rfl) (by decide) ?_
    refine VL.to (fun _ _ h => h) ?_
    cases hS
    exact VC.ret (fin1 (.inr rfl) rfl rfl out5_1 rfl rfl (by (try dsimp only); exact InM.out) (by (try dsimp only); exact EntO.out))

set_option maxHeartbeats 4000000 in
set_option maxRecDepth 100000 in
theorem rectolaw15_All_ct (a_0 : Sv IndexEntry) (b_1 : Sv Rectoref14Entry) {r : Bool} (hS : Sh.rectolaw15_All a_0.l b_1.l = some r) :
    Ct Tryz.prog 20 [a_0.val, b_1.val] (a_0.ok.and b_1.ok) (Ow.emp) (X := Unit) (fun _ => .bool r) (fun _ => True) (fun _ => Mo.tt) (fun _ => Ow.emp) := by
  refine Ct.of Tryz.func20 rfl (by kernel_rfl) Tryz.ntmps20 (by simp) fun c => ?_
  unfold Sh.rectolaw15_All at hS
  refine VC.seq ?_
  refine VC.region ?_
  refine VL.q (q_assign rfl) (by decide) ?_
  refine VL.to (fun _ _ h => h) ?_
  refine VC.seq ?_
  refine VC.region ?_
  refine VL.q (q_move rfl) (by decide) ?_
  obtain ⟨y8_1, ey8_1, hS⟩ := bd_s hS
  refine VL.callO (rectolaw15_Of_ct a_0 ey8_1) rfl (by decide) ?_
  rintro q8_1_0 rfl
  try dsimp only
  refine VL.q (q_assign rfl) (by decide) ?_
  refine VL.to (fun _ _ h => h) ?_
  refine VC.seq ?_
  refine VC.seq ?_
  refine VC.region ?_
  refine VL.q (q_move rfl) (by decide) ?_
  refine VL.q (q_ln (s := q8_1_0) Tryz.underlying44 rfl) (by decide) ?_
  refine VL.q (q_move rfl) (by decide) ?_
  refine VL.q (q_ln (s := b_1) Tryz.underlying44 rfl) (by decide) ?_
  refine VL.q (q_neq rfl rfl) (by decide) ?_
  refine VL.to (fun _ _ h => h) ?_
  refine VC.keep [1, 5, 13] rfl ?_
  refine VC.cond_ndec rfl (fun h13 => ?_) (fun h13 => ?_)
  ·
    replace hS := it_f h13 hS
    refine VC.seq ?_
    refine VC.region ?_
    refine VL.q (q_assign rfl) (by decide) ?_
    refine VL.to (fun _ _ h => h) ?_
    cases hS
    exact VC.ret (fin1 (.inr rfl) rfl rfl () rfl trivial (fun _ _ => trivial) (fun _ _ => trivial))
  ·
    replace hS := it_t h13 hS
    refine VC.skip_to (fun _ _ h => h) ?_
    refine VC.seq ?_
    refine VC.seq ?_
    refine VC.region ?_
    refine VL.q (q_assign rfl) (by decide) ?_
    refine VL.to (fun _ _ h => h) ?_
    refine VC.block ?_
    refine VC.iter (S := Int) (fun (i6_2 : Int) => i6_2) (fun (i6_2 : Int) => [(1, b_1.val), (5, q8_1_0.val), (6, i64 i6_2)]) (fun (i6_2 : Int) => Mo.tt) (fun (i6_2 : Int) => Ow.star (Sv.own q8_1_0 51) (Ow.emp)) 0 [1, 5, 6] hS rfl ?_
    clear hS
    rintro i6_2 m1 y1 hS hK1
    show VC _ _ _ _ _ [(1, b_1.val), (5, q8_1_0.val), (6, i64 i6_2)] (Mo.and Mo.tt _) (Ow.star (Sv.own q8_1_0 51) (Ow.emp))
    refine VC.seq ?_
    refine VC.seq ?_
    refine VC.region ?_
    refine VL.q (q_move rfl) (by decide) ?_
    refine VL.q (q_move rfl) (by decide) ?_
    refine VL.q (q_ln (s := q8_1_0) Tryz.underlying44 rfl) (by decide) ?_
    refine VL.q (q_lss rfl rfl) (by decide) ?_
    refine VL.to (fun _ _ h => h) ?_
    refine VC.cond_dec rfl (fun h17 => ?_) (fun h17 => ?_)
    ·
      replace hS := it_t h17 hS
      refine VC.skip_to (fun _ _ h => h) ?_
      refine VC.seq ?_
      refine VC.block ?_
      refine VC.seq ?_
      refine VC.draw ((List.range 9).map fun k => (k, true)) mixed (by kernel_rfl) (by kernel_rfl) (by kernel_rfl) ?_
      refine VD.q rfl (q_move rfl) (by decide) ?_
      refine VD.q rfl (q_move rfl) (by decide) ?_
      obtain ⟨z22_3, nz22_3, hz22_3, hS⟩ := at_s hS
      refine VD.q rfl (q_ixo (s := q8_1_0) Tryz.underlying44 gsz51 rfl rfl nz22_3 (lt_of_get nz22_3 hz22_3)) (by decide) ?_
      refine VD.q rfl (q_elso (s := q8_1_0) gagg51 rfl rfl hz22_3) (by decide) ?_
      refine VD.q rfl (q_move rfl) (by decide) ?_
      refine VD.q rfl (q_move rfl) (by decide) ?_
      obtain ⟨z26_4, nz26_4, hz26_4, hS⟩ := at_s hS
      refine VD.q rfl (q_ixm (s := b_1) Tryz.underlying44 gsz51 rfl rfl nz26_4 (lt_of_get nz26_4 hz26_4)) (by decide) ?_
      refine VD.q rfl (q_els (s := b_1) gagg51 rfl rfl hz26_4) (by decide) ?_
      refine VD.q rfl (q_stneq geqg51 (geqs51 z22_3.path z22_3.stage z22_3.mode z22_3.data z22_3.time z22_3.size z26_4.path z26_4.stage z26_4.mode z26_4.data z26_4.time z26_4.size) rfl rfl) (by decide) ?_
      refine VD.to (fun _ _ h => h) ?_
      refine VC.keep [1, 5, 6, 28] rfl ?_
      refine VC.cond_ndec rfl (fun h28 => ?_) (fun h28 => ?_)
      ·
        replace hS := it_f h28 hS
        refine VC.seq ?_
        refine VC.region ?_
        refine VL.q (q_assign rfl) (by decide) ?_
        refine VL.to (fun _ _ h => h) ?_
        replace hS := up2 hS hK1
        cases hS
        exact VC.ret (fin1 (.inr rfl) rfl rfl () rfl trivial (fun _ _ => trivial) (fun _ _ => trivial))
      ·
        replace hS := it_t h28 hS
        refine VC.skip_to (fun _ _ h => h) ?_
        refine VC.region ?_
        refine VL.q (q_move rfl) (by decide) ?_
        obtain ⟨b19, hS⟩ := gd_s hS
        refine VL.q (q_add rfl rfl b19) (by decide) ?_
        refine VL.q (q_assign rfl) (by decide) ?_
        refine VL.rnd (i6_2 + 1) [1, 5, 6] (fun _ _ h => h) (go2 hS hK1) rfl
    ·
      replace hS := it_f h17 hS
      replace hS := up2 hS hK1
      refine VC.exit_to (fun _ _ h => h) ?_
      refine VC.seq ?_
      refine VC.region ?_
      refine VL.q (q_assign rfl) (by decide) ?_
      refine VL.to (fun _ _ h => h) ?_
      cases hS
      exact VC.ret (fin1 (.inr rfl) rfl rfl () rfl trivial (fun _ _ => trivial) (fun _ _ => trivial))

set_option maxHeartbeats 4000000 in
set_option maxRecDepth 100000 in
theorem rectolaw15_IndexPlays_ct (l_0 : Sv IndexEntry) (drop_1 : Sv Str) {r : Bool} (hS : Sh.rectolaw15_IndexPlays l_0.l drop_1.l = some r) :
    Ct Tryz.prog 4 [l_0.val, drop_1.val] (l_0.ok.and drop_1.ok) (Ow.emp) (X := Unit) (fun _ => .bool r) (fun _ => True) (fun _ => Mo.tt) (fun _ => Ow.emp) := by
  refine Ct.of Tryz.func4 rfl (by kernel_rfl) Tryz.ntmps4 (by simp) fun c => ?_
  unfold Sh.rectolaw15_IndexPlays at hS
  refine VC.seq ?_
  refine VC.region ?_
  refine VL.q (q_assign rfl) (by decide) ?_
  refine VL.to (fun _ _ h => h) ?_
  refine VC.seq ?_
  refine VC.seq ?_
  refine VC.region ?_
  obtain ⟨y8_1, ey8_1, hS⟩ := bd_s hS
  refine VL.q (q_call (rectolaw15_known_ct ey8_1) rfl (fun _ _ => rfl)) (by decide) ?_
  refine VL.q (q_not rfl) (by decide) ?_
  refine VL.to (fun _ _ h => h) ?_
  refine VC.cond rfl (fun h9 => ?_) (fun h9 => ?_)
  ·
    replace hS := it_t h9 hS
    refine VC.seq ?_
    refine VC.region ?_
    refine VL.q (q_assign rfl) (by decide) ?_
    refine VL.to (fun _ _ h => h) ?_
    cases hS
    exact VC.ret (fin1 (.inr rfl) rfl rfl () rfl trivial (fun _ _ => trivial) (fun _ _ => trivial))
  ·
    replace hS := it_b h9 hS
    refine VC.skip_to (fun _ _ h => h) ?_
    refine VC.seq ?_
    refine VC.cutJ (S := Bool) (fun (x17_2 : Bool) => x17_2) (fun (x17_2 : Bool) => [(0, l_0.val), (1, drop_1.val), (17, .bool x17_2)]) (fun (x17_2 : Bool) => Mo.tt) (fun (x17_2 : Bool) => Ow.emp) hS ?_ ?_
    · -- up to where ways meet
      clear hS
      intro k3 hS
      refine VC.region ?_
      refine VL.q (q_move rfl) (by decide) ?_
      obtain ⟨y11_4, ey11_4, hS⟩ := bd_s hS
      refine VL.q (q_call (rectolaw15_Few_ct l_0 ey11_4) rfl (fun _ _ => rfl)) (by decide) ?_
      refine VL.q (q_not rfl) (by decide) ?_
      refine VL.q (q_move rfl) (by decide) ?_
      refine VL.split 13 rfl (fun h13 => ?_) (fun h13 => ?_)
      ·
        replace hS := it_t h13 hS
        refine VL.gn rfl rfl rfl (by decide) ?_
        refine VL.gn rfl rfl rfl (by decide) ?_
        refine VL.gn rfl rfl rfl (by decide) ?_
        refine VL.q (q_pick_t rfl rfl) (by decide) ?_
        refine VL.mt true [0, 1, 17] (fun _ _ h => h) hS rfl
      ·
        replace hS := it_b h13 hS
        refine VL.gy rfl rfl (q_move rfl) (by decide) ?_
        refine VL.gy rfl rfl (q_ln (s := drop_1) Tryz.underlying42 rfl) (by decide) ?_
        refine VL.gy rfl rfl (q_gtr rfl rfl) (by decide) ?_
        refine VL.q (q_pick_f rfl rfl) (by decide) ?_
        refine VL.mt (decide (40 < (drop_1.l.length : Int))) [0, 1, 17] (fun _ _ h => h) hS rfl
    · -- from there
      clear hS
      rintro x17_2 hS
      show VC _ _ _ _ _ [(0, l_0.val), (1, drop_1.val), (17, .bool x17_2)] (Mo.and Mo.tt _) (Ow.emp)
      refine VC.cond rfl (fun h17 => ?_) (fun h17 => ?_)
      ·
        replace hS := it_t h17 hS
        refine VC.seq ?_
        refine VC.region ?_
        refine VL.q (q_assign rfl) (by decide) ?_
        refine VL.to (fun _ _ h => h) ?_
        cases hS
        exact VC.ret (fin1 (.inr rfl) rfl rfl () rfl trivial (fun _ _ => trivial) (fun _ _ => trivial))
      ·
        replace hS := it_b h17 hS
        refine VC.skip_to (fun _ _ h => h) ?_
        refine VC.seq ?_
        refine VC.region ?_
        refine VL.q (q_assign rfl) (by decide) ?_
        refine VL.to (fun _ _ h => h) ?_
        refine VC.seq ?_
        refine VC.region ?_
        refine VL.q (q_assign rfl) (by decide) ?_
        refine VL.to (fun _ _ h => h) ?_
        refine VC.seq ?_
        refine VC.seq ?_
        refine VC.region ?_
        refine VL.q (q_assign rfl) (by decide) ?_
        refine VL.to (fun _ _ h => h) ?_
        refine VC.block ?_
        refine VC.nilO (⟨none, 0, []⟩ : Sv Rectoref14Entry) 51 ⟨rfl, rfl⟩ ?_
        refine VC.iter (S := Sv IndexEntry × Sv Rectoref14Entry × Int) (fun sg => (sg.1.l, sg.2.1.l, sg.2.2)) (fun sg => [(0, l_0.val), (1, drop_1.val), (5, sg.1.val), (6, sg.2.1.val), (7, i64 sg.2.2)]) (fun sg => sg.1.ok) (fun sg => Ow.star (Sv.own sg.2.1 51) (Ow.emp)) (⟨none, 0, []⟩, ⟨none, 0, []⟩, 0) [0, 1, 5, 6, 7] hS rfl ?_
        clear hS
        rintro ⟨x5_5, y6_6, i7_7⟩ m1 y1 hS hK1
        show VC _ _ _ _ _ [(0, l_0.val), (1, drop_1.val), (5, x5_5.val), (6, y6_6.val), (7, i64 i7_7)] (Mo.and x5_5.ok _) (Ow.star (Sv.own y6_6 51) (Ow.emp))
        refine VC.seq ?_
        refine VC.seq ?_
        refine VC.region ?_
        refine VL.q (q_move rfl) (by decide) ?_
        refine VL.q (q_move rfl) (by decide) ?_
        refine VL.q (q_ln (s := l_0) Tryz.underlying41 rfl) (by decide) ?_
        refine VL.q (q_lss rfl rfl) (by decide) ?_
        refine VL.to (fun _ _ h => h) ?_
        refine VC.cond_dec rfl (fun h21 => ?_) (fun h21 => ?_)
        ·
          replace hS := it_t h21 hS
          refine VC.skip_to (fun _ _ h => h) ?_
          refine VC.seq ?_
          refine VC.block ?_
          refine VC.seq ?_
          refine VC.seq ?_
          refine VC.region ?_
          refine VL.q (q_move rfl) (by decide) ?_
          refine VL.q (q_move rfl) (by decide) ?_
          refine VL.q (q_move rfl) (by decide) ?_
          obtain ⟨b27, hS⟩ := gd_s hS
          refine VL.q (q_add rfl rfl b27) (by decide) ?_
          obtain ⟨b28, hS⟩ := gd_s hS
          refine VL.smid Tryz.underlying41 gsz49 rfl rfl rfl b28.1 b28.2.1 (b28.2.2) (by decide) fun s28_8 hs28_8 => ?_
          replace hS := lt_to hs28_8 hS
          obtain ⟨y29_10, ey29_10, hS⟩ := bd_s hS
          refine VL.callO (rectolaw15_Of_ct s28_8 ey29_10) rfl (by decide) ?_
          rintro q29_10_0 rfl
          try dsimp only
          refine VL.shut q29_10_0 51 (fun _ _ _ _ => trivial) ?_
          obtain ⟨y30_11, ey30_11, hS⟩ := bd_s hS
          refine VL.callF (rectoref14_CheckIndex_ct q29_10_0 ey30_11) rfl (by decide) ?_
          rintro q30_11_0 rfl
          try dsimp only
          refine VL.q (q_fld Tryz.underlying34 rfl gone3 rfl rfl) (by decide) ?_
          refine VL.q (q_neq rfl rfl) (by decide) ?_
          refine VL.to (fun _ _ h => h) ?_
          refine VC.keep [0, 1, 5, 6, 7, 32] rfl ?_
          refine VC.cond_ndec rfl (fun h32 => ?_) (fun h32 => ?_)
          ·
            replace hS := it_f h32 hS
            refine VC.seq ?_
            refine VC.region ?_
            refine VL.q (q_assign rfl) (by decide) ?_
            refine VL.to (fun _ _ h => h) ?_
            replace hS := up2 hS hK1
            cases hS
            exact VC.ret (fin1 (.inr rfl) rfl rfl () rfl trivial (fun _ _ => trivial) (fun _ _ => trivial))
          ·
            replace hS := it_t h32 hS
            refine VC.skip_to (fun _ _ h => h) ?_
            refine VC.seq ?_
            refine VC.region ?_
            refine VL.q (q_move rfl) (by decide) ?_
            refine VL.q (q_move rfl) (by decide) ?_
            refine VL.q (q_move rfl) (by decide) ?_
            obtain ⟨z36_12, nz36_12, hz36_12, hS⟩ := at_s hS
            refine VL.q (q_ixm (s := l_0) Tryz.underlying41 gsz49 rfl rfl nz36_12 (lt_of_get nz36_12 hz36_12)) (by decide) ?_
            refine VL.q (q_els (s := l_0) gagg49 rfl rfl hz36_12) (by decide) ?_
            obtain ⟨y38_13, ey38_13, hS⟩ := bd_s hS
            refine VL.callF (index_Put_ct x5_5 z36_12 ey38_13) rfl (by decide) ?_
            rintro q38_13_0 rfl
            try dsimp only
            refine VL.q (q_assign rfl) (by decide) ?_
            refine VL.to (fun _ _ h => h) ?_
            refine VC.keep [0, 1, 5, 6, 7] rfl ?_
            refine VC.seq ?_
            refine VC.region ?_
            refine VL.q (q_move rfl) (by decide) ?_
            refine VL.q (q_move rfl) (by decide) ?_
            refine VL.q (q_move rfl) (by decide) ?_
            refine VL.q (q_move rfl) (by decide) ?_
            obtain ⟨b43, hS⟩ := gd_s hS
            refine VL.q (q_add rfl rfl b43) (by decide) ?_
            obtain ⟨b44, hS⟩ := gd_s hS
            refine VL.smid Tryz.underlying41 gsz49 rfl rfl rfl b44.1 b44.2.1 (b44.2.2) (by decide) fun s44_14 hs44_14 => ?_
            replace hS := lt_to hs44_14 hS
            obtain ⟨y45_16, ey45_16, hS⟩ := bd_s hS
            refine VL.callO (rectolaw15_Of_ct s44_14 ey45_16) rfl (by decide) ?_
            rintro q45_16_0 rfl
            try dsimp only
            obtain ⟨z46_17, nz46_17, hz46_17, hS⟩ := at_s hS
            refine VL.q (q_ixo (s := q45_16_0) Tryz.underlying44 gsz51 rfl rfl nz46_17 (lt_of_get nz46_17 hz46_17)) (by decide) ?_
            refine VL.q (q_elso (s := q45_16_0) gagg51 rfl rfl hz46_17) (by decide) ?_
            obtain ⟨y48_18, ey48_18, hS⟩ := bd_s hS
            refine VL.callOR (rectoref14_PutEntry_ct y6_6 z46_17 ey48_18) rfl (by decide) ?_
            rintro q48_18_0 rfl
            try dsimp only
            refine VL.q (q_assign rfl) (by decide) ?_
            refine VL.to (fun _ _ h => h) ?_
            refine VC.keep [0, 1, 5, 6, 7] rfl ?_
            refine VC.cutJ (S := Sv IndexEntry × Sv Rectoref14Entry) (fun sg => (sg.1.l, sg.2.l)) (fun sg => [(0, l_0.val), (1, drop_1.val), (5, sg.1.val), (6, sg.2.val), (7, i64 i7_7)]) (fun sg => sg.1.ok) (fun sg => Ow.star (Sv.own sg.2 51) (Ow.emp)) hS ?_ ?_
            · -- up to where ways meet
              clear hS
              intro k21 hS
              refine VC.seq ?_
              refine VC.region ?_
              refine VL.q (q_move rfl) (by decide) ?_
              refine VL.q (q_move rfl) (by decide) ?_
              refine VL.q (q_ln (s := drop_1) Tryz.underlying42 rfl) (by decide) ?_
              refine VL.q (q_lss rfl rfl) (by decide) ?_
              refine VL.to (fun _ _ h => h) ?_
              refine VC.cond_dec rfl (fun h52 => ?_) (fun h52 => ?_)
              ·
                replace hS := it_t h52 hS
                refine VC.seq ?_
                refine VC.seq ?_
                refine VC.region ?_
                refine VL.q (q_move rfl) (by decide) ?_
                refine VL.q (q_move rfl) (by decide) ?_
                obtain ⟨z55_22, nz55_22, hz55_22, hS⟩ := at_s hS
                refine VL.q (q_ixm (s := drop_1) Tryz.underlying42 gsz9 rfl rfl nz55_22 (lt_of_get nz55_22 hz55_22)) (by decide) ?_
                refine VL.q (q_el (s := drop_1) gone9 rfl hz55_22 rfl) (by decide) ?_
                refine VL.q (q_slen Tryz.underlying9 rfl) (by decide) ?_
                refine VL.q (q_gtr rfl rfl) (by decide) ?_
                refine VL.to (fun _ _ h => h) ?_
                refine VC.keep [0, 1, 5, 6, 7, 58] rfl ?_
                refine VC.cond_dec rfl (fun h58 => ?_) (fun h58 => ?_)
                ·
                  replace hS := it_t h58 hS
                  refine VC.seq ?_
                  refine VC.region ?_
                  refine VL.q (q_assign rfl) (by decide) ?_
                  refine VL.to (fun _ _ h => h) ?_
                  replace hS := up2 hS hK1
                  cases hS
                  exact VC.ret (fin1 (.inr rfl) rfl rfl () rfl trivial (fun _ _ => trivial) (fun _ _ => trivial))
                ·
                  replace hS := it_f h58 hS
                  refine VC.skip_to (fun _ _ h => h) ?_
                  refine VC.seq ?_
                  refine VC.region ?_
                  refine VL.q (q_move rfl) (by decide) ?_
                  refine VL.q (q_move rfl) (by decide) ?_
                  refine VL.q (q_move rfl) (by decide) ?_
                  obtain ⟨z62_23, nz62_23, hz62_23, hS⟩ := at_s hS
                  refine VL.q (q_ixm (s := drop_1) Tryz.underlying42 gsz9 rfl rfl nz62_23 (lt_of_get nz62_23 hz62_23)) (by decide) ?_
                  refine VL.q (q_el (s := drop_1) gone9 rfl hz62_23 rfl) (by decide) ?_
                  obtain ⟨y64_24, ey64_24, hS⟩ := bd_s hS
                  refine VL.callF (index_Drop_ct q38_13_0 z62_23 ey64_24) rfl (by decide) ?_
                  rintro q64_24_0 rfl
                  try dsimp only
                  refine VL.q (q_assign rfl) (by decide) ?_
                  refine VL.to (fun _ _ h => h) ?_
                  refine VC.keep [0, 1, 5, 6, 7] rfl ?_
                  refine VC.region ?_
                  refine VL.q (q_move rfl) (by decide) ?_
                  refine VL.q (q_move rfl) (by decide) ?_
                  refine VL.q (q_move rfl) (by decide) ?_
                  obtain ⟨z68_25, nz68_25, hz68_25, hS⟩ := at_s hS
                  refine VL.q (q_ixm (s := drop_1) Tryz.underlying42 gsz9 rfl rfl nz68_25 (lt_of_get nz68_25 hz68_25)) (by decide) ?_
                  refine VL.q (q_el (s := drop_1) gone9 rfl hz68_25 rfl) (by decide) ?_
                  obtain ⟨y70_26, ey70_26, hS⟩ := bd_s hS
                  refine VL.callOR (rectoref14_Drop_ct q48_18_0 z68_25 ey70_26) rfl (by decide) ?_
                  rintro q70_26_0 rfl
                  try dsimp only
                  refine VL.q (q_assign rfl) (by decide) ?_
                  refine VL.mt (q64_24_0, q70_26_0) [0, 1, 5, 6, 7] (fun _ _ h => h) hS rfl
              ·
                replace hS := it_f h52 hS
                refine VC.skip_mt (q38_13_0, q48_18_0) [0, 1, 5, 6, 7] (fun _ _ h => h) hS rfl
            · -- from there
              clear hS
              rintro ⟨x5_19, y6_20⟩ hS
              show VC _ _ _ _ _ [(0, l_0.val), (1, drop_1.val), (5, x5_19.val), (6, y6_20.val), (7, i64 i7_7)] (Mo.and x5_19.ok _) (Ow.star (Sv.own y6_20 51) (Ow.emp))
              refine VC.cutJ (S := Bool) (fun (x79_27 : Bool) => x79_27) (fun (x79_27 : Bool) => [(0, l_0.val), (1, drop_1.val), (5, x5_19.val), (6, y6_20.val), (7, i64 i7_7), (79, .bool x79_27)]) (fun (x79_27 : Bool) => Mo.tt) (fun (x79_27 : Bool) => Ow.star (Sv.own y6_20 51) (Ow.emp)) hS ?_ ?_
              · -- up to where ways meet
                clear hS
                intro k28 hS
                refine VC.region ?_
                refine VL.q (q_move rfl) (by decide) ?_
                refine VL.q (q_move rfl) (by decide) ?_
                obtain ⟨y73_29, ey73_29, hS⟩ := bd_s hS
                refine VL.q (q_callR (rectolaw15_All_ct x5_19 y6_20 ey73_29) rfl (fun _ _ => rfl)) (by decide) ?_
                refine VL.q (q_not rfl) (by decide) ?_
                refine VL.q (q_move rfl) (by decide) ?_
                refine VL.split 75 rfl (fun h75 => ?_) (fun h75 => ?_)
                ·
                  replace hS := it_t h75 hS
                  refine VL.gn rfl rfl rfl (by decide) ?_
                  refine VL.gn rfl rfl rfl (by decide) ?_
                  refine VL.gn rfl rfl rfl (by decide) ?_
                  refine VL.q (q_pick_t rfl rfl) (by decide) ?_
                  refine VL.mt true [0, 1, 5, 6, 7, 79] (fun _ _ h => h) hS rfl
                ·
                  replace hS := it_b h75 hS
                  refine VL.gy rfl rfl (q_move rfl) (by decide) ?_
                  refine VL.guard rfl rfl ?_
                  obtain ⟨y77_30, ey77_30, hS⟩ := bd_s hS
                  refine VL.callF (index_Check_ct x5_19 ey77_30) rfl (by decide) ?_
                  rintro q77_30_0 rfl
                  try dsimp only
                  refine VL.gy rfl rfl (q_erne Tryz.underlying38 rfl) (by decide) ?_
                  refine VL.q (q_pick_f rfl rfl) (by decide) ?_
                  refine VL.mt (!decide (q77_30_0.pl.isNil = true)) [0, 1, 5, 6, 7, 79] (fun _ _ h => h) hS rfl
              · -- from there
                clear hS
                rintro x79_27 hS
                show VC _ _ _ _ _ [(0, l_0.val), (1, drop_1.val), (5, x5_19.val), (6, y6_20.val), (7, i64 i7_7), (79, .bool x79_27)] (Mo.and Mo.tt _) (Ow.star (Sv.own y6_20 51) (Ow.emp))
                refine VC.cond rfl (fun h79 => ?_) (fun h79 => ?_)
                ·
                  replace hS := it_t h79 hS
                  refine VC.seq ?_
                  refine VC.region ?_
                  refine VL.q (q_assign rfl) (by decide) ?_
                  refine VL.to (fun _ _ h => h) ?_
                  replace hS := up2 hS hK1
                  cases hS
                  exact VC.ret (fin1 (.inr rfl) rfl rfl () rfl trivial (fun _ _ => trivial) (fun _ _ => trivial))
                ·
                  replace hS := it_b h79 hS
                  refine VC.skip_to (fun _ _ h => h) ?_
                  refine VC.region ?_
                  refine VL.q (q_move rfl) (by decide) ?_
                  obtain ⟨b23, hS⟩ := gd_s hS
                  refine VL.q (q_add rfl rfl b23) (by decide) ?_
                  refine VL.q (q_assign rfl) (by decide) ?_
                  refine VL.rnd (x5_19, y6_20, (i7_7 + 1)) [0, 1, 5, 6, 7] (fun _ _ h => h) (go2 hS hK1) rfl
        ·
          replace hS := it_f h21 hS
          replace hS := up2 hS hK1
          refine VC.exit_to (fun _ _ h => h) ?_
          refine VC.seq ?_
          refine VC.region ?_
          refine VL.q (q_assign rfl) (by decide) ?_
          refine VL.to (fun _ _ h => h) ?_
          cases hS
          exact VC.ret (fin1 (.inr rfl) rfl rfl () rfl trivial (fun _ _ => trivial) (fun _ _ => trivial))

end Go.Proofs.YtipnlckfohhkbaaGreatDoor
end

section
/- Plain laws on loops that compare two rows. No program in sight. -/
namespace Go.S
theorem at_get {α : Type} {l : List α} {i : Int} (h0 : 0 ≤ i) (h : i < l.length) : ∃ z, l[i.toNat]? = some z := ⟨_, List.getElem?_eq_getElem (by omega)⟩
theorem eqloop {α : Type} [DecidableEq α] (P : α → α → Prop) [∀ z w, Decidable (P z w)] (hP : ∀ z w, P z w ↔ z = w) (l r : List α) (hl : (l.length : Int) = r.length) (hb : (l.length : Int) ≤ 1000000000) (B : Int → Option (Int ⊕ Bool))
    (hB : ∀ i, B i = if i < (l.length : Int) then (at_ l i).bind (fun z => (at_ r i).bind (fun w => if P z w then gd (I64 (i + 1)) (go (i + 1)) else up (some false))) else up (some true)) : iter B 0 = some (decide (l = r)) := by
  apply Ok.eq
  refine ok_iter (I := fun i => 0 ≤ i ∧ i ≤ l.length ∧ l.take i.toNat = r.take i.toNat) (μ := fun i => (l.length - i).toNat) ?_ ⟨by omega, by omega, rfl⟩
  rintro i ⟨h0, h1, h2⟩
  rw [hB]
  simp only [ok_if, ok_up, ok_bd, ok_gd, ok_go, ok_some, ok_at]
  refine ⟨fun h => ?_, fun h => ?_⟩
  · obtain ⟨z, hz⟩ := at_get h0 h
    obtain ⟨w, hw⟩ := at_get (l := r) h0 (by omega)
    refine ⟨h0, z, hz, h0, w, hw, fun hp => ?_, fun hp => ?_⟩
    · have e := (hP z w).1 hp
      refine ⟨⟨by omega, by omega⟩, ⟨by omega, by omega, ?_⟩, by omega⟩
      rw [show (i + 1).toNat = i.toNat + 1 by omega, List.take_add_one, List.take_add_one, h2, hz, hw, e]
    · have e : z ≠ w := fun e => hp ((hP z w).2 e)
      refine (decide_eq_false fun q => e ?_).symm
      subst q
      rw [hz] at hw
      exact Option.some.inj hw
  · have e : i.toNat = l.length := by omega
    rw [e, List.take_length] at h2
    rw [show l.length = r.length by omega, List.take_length] at h2
    exact (decide_eq_true h2).symm
end Go.S
end

section
/- Plain laws on rows. No program in sight. -/
namespace Go.S
theorem get_lt {α : Type} {l : List α} {i : Nat} {x : α} (h : l[i]? = some x) : i < l.length := (List.getElem?_eq_some_iff.1 h).1
theorem at_last {α : Type} (l : List α) (z : α) : (l ++ [z])[(((l ++ [z]).length : Int) - 1).toNat]? = some z := by
  rw [show ((((l ++ [z]).length : Int) - 1).toNat) = l.length by simp]
  simp
theorem take_last {α : Type} (l : List α) (z : α) : (l ++ [z]).take (((l ++ [z]).length : Int) - 1).toNat = l := by
  rw [show ((((l ++ [z]).length : Int) - 1).toNat) = l.length by simp]
  simp
theorem set_get_true {l : List Bool} {i j : Nat} (h : l[j]? = some true) : (l.set i true)[j]? = some true := by
  rw [List.getElem?_set]
  split
  · next e => subst e; rw [if_pos (get_lt h)]
  · exact h
theorem count_set_true {l : List Bool} {i : Nat} (h : l[i]? = some false) : (l.set i true).count false + 1 = l.count false := by
  have hi := get_lt h
  rw [List.count_set hi]
  have h1 : l[i] = false := by
    rw [List.getElem?_eq_getElem hi] at h; exact Option.some.inj h
  have h2 : 0 < l.count false := List.count_pos_iff.2 (h1 ▸ List.getElem_mem hi)
  simp [h1]; omega
theorem take_snoc {α : Type} {l : List α} {i : Int} {z : α} (h0 : 0 ≤ i) (h : l[i.toNat]? = some z) : l.take (i + 1).toNat = l.take i.toNat ++ [z] := by
  rw [show (i + 1).toNat = i.toNat + 1 by omega, List.take_add_one, h]; rfl
theorem set_self {x : List Bool} {i : Nat} (h : i < x.length) : (x.set i true)[i]? = some true := by rw [List.getElem?_set, if_pos rfl, if_pos h]
theorem filter_snoc {α : Type} (p : α → Bool) (l : List α) (z : α) : (l ++ [z]).filter p = l.filter p ++ (if p z then [z] else []) := by
  rw [List.filter_append]; cases h : p z <;> simp [h]
theorem map_at {α β : Type} {f : α → β} {l : List α} {i : Int} (h0 : 0 ≤ i) (h : i < (l.map f).length) : ∃ z, l[i.toNat]? = some z ∧ (l.map f)[i.toNat]? = some (f z) := by
  rw [List.length_map] at h
  obtain ⟨z, hz⟩ := at_get h0 h
  exact ⟨z, hz, by rw [List.getElem?_map, hz]; rfl⟩
theorem part_get {α : Type} {r l : List α} {i : Nat} (hl : r.length = l.length) {j : Nat} (h : i ≤ j) : (r.take i ++ l.drop i)[j]? = l[j]? := by
  by_cases hi : i ≤ r.length
  · rw [List.getElem?_append_right (by rw [List.length_take]; omega), List.length_take, List.getElem?_drop]
    congr 1; omega
  · rw [List.getElem?_eq_none (by simp; omega), List.getElem?_eq_none (by omega)]
theorem part_set {α : Type} {r l : List α} {i : Nat} {z : α} (hl : r.length = l.length) (h : r[i]? = some z) : (r.take i ++ l.drop i).set i z = r.take (i + 1) ++ l.drop (i + 1) := by
  have hi := get_lt h
  rw [List.take_add_one, h, List.set_append_right _ _ (by rw [List.length_take]; omega), List.length_take, show i - min i r.length = 0 by omega]
  have hd : l.drop i = l[i] :: l.drop (i + 1) := List.drop_eq_getElem_cons (by omega)
  rw [hd, List.set_cons_zero]
  simp
theorem ok_jnP {S R : Type} {K : S → Option R} {F : (S → Option R) → Option R} {Q : R → Prop} (P : S → Prop) (hK : ∀ s, P s → Ok (K s) Q) (hF : ∀ K' : S → Option R, (∀ s, P s → Ok (K' s) Q) → Ok (F K') Q) : Ok (jn K F) Q := hF K hK
theorem snoc_ind {α : Type} {P : List α → Prop} (h0 : P []) (h1 : ∀ l b, P l → P (l ++ [b])) (l : List α) : P l := by
  have h : ∀ r : List α, P r.reverse := fun r => by
    induction r with
    | nil => exact h0
    | cons x r ih => rw [List.reverse_cons]; exact h1 _ _ ih
  have := h l.reverse
  rwa [List.reverse_reverse] at this
theorem byte_eq {z : UInt8} {n : Nat} (hn : n < 256) : ((z.toNat : Int) = n) ↔ z = UInt8.ofNat n := by
  constructor
  · intro h
    apply UInt8.toNat_inj.1
    simp [Nat.mod_eq_of_lt hn]; omega
  · intro h
    subst h
    simp [Nat.mod_eq_of_lt hn]
theorem mid1 {α : Type} {s : List α} {i : Int} {z : α} (h0 : 0 ≤ i) (h : s[i.toNat]? = some z) : (s.drop i.toNat).take ((i + 1).toNat - i.toNat) = [z] := by
  obtain ⟨h1, h2⟩ := List.getElem?_eq_some_iff.1 h
  rw [show (i + 1).toNat - i.toNat = 1 by omega, List.drop_eq_getElem_cons h1, h2]
  rfl
theorem drop_cons {α : Type} {s : List α} {i : Int} {z : α} (h0 : 0 ≤ i) (h : s[i.toNat]? = some z) : s.drop i.toNat = z :: s.drop (i + 1).toNat := by
  obtain ⟨h1, h2⟩ := List.getElem?_eq_some_iff.1 h
  rw [show (i + 1).toNat = i.toNat + 1 by omega, List.drop_eq_getElem_cons h1, h2]
end Go.S
end

section
/- Plain laws on indexes. No program in sight. -/
namespace Go.S
open Go
set_option maxRecDepth 100000
theorem known15 : Sh.rectolaw15_known = some true := by decide +kernel
end Go.S
end

section
/- Plain laws on loops: the first place, what is left behind. No program in sight. -/
namespace Go.S
open Go
/-- the first element that has it -/
def Fst {α : Type} (p : α → Bool) (l : List α) (r : Int) : Prop := (r = -1 ∧ ∀ z ∈ l, p z = false) ∨ ∃ k : Nat, r = k ∧ k < l.length ∧ (∀ z ∈ l.take k, p z = false) ∧ ∃ z, l[k]? = some z ∧ p z = true
theorem ixloop {α : Type} (p : α → Bool) (l : List α) (hb : l.length ≤ 1000000000) (F : α → Option Bool) (hF : ∀ z ∈ l, F z = some (p z)) (B : Int → Option (Int ⊕ Int))
    (hB : ∀ i, B i = if i < (l.length : Int) then (at_ l i).bind (fun z => (F z).bind (fun y => if y = true then up (some i) else gd (I64 (i + 1)) (go (i + 1)))) else up (some (-1))) : Ok (iter B 0) (Fst p l) := by
  refine ok_iter (I := fun i => 0 ≤ i ∧ i ≤ l.length ∧ ∀ z ∈ l.take i.toNat, p z = false) (μ := fun i => (l.length - i).toNat) ?_ ⟨by omega, by omega, by simp⟩
  rintro i ⟨h0, h1, h2⟩
  rw [hB]
  simp only [ok_if, ok_up, ok_bd, ok_some, ok_at]
  refine ⟨fun h => ?_, fun h => ?_⟩
  · obtain ⟨z, hz⟩ := at_get h0 h
    refine ⟨h0, z, hz, ?_⟩
    rw [hF z (List.mem_of_getElem? hz), ok_some]
    simp only [ok_if, ok_up, ok_gd, ok_go, ok_some]
    refine ⟨fun hp => .inr ⟨i.toNat, by omega, by omega, h2, z, hz, hp⟩, fun hp => ⟨⟨by omega, by omega⟩, ⟨by omega, by omega, fun y hy => ?_⟩, by omega⟩⟩
    rw [take_snoc h0 hz] at hy
    rcases List.mem_append.1 hy with q | q
    · exact h2 y q
    · rw [List.mem_singleton.1 q]; simpa using hp
  · rw [List.take_of_length_le (by omega)] at h2
    exact .inl ⟨rfl, h2⟩
theorem fst_any {α : Type} {p : α → Bool} {l : List α} {r : Int} (h : Fst p l r) : decide (0 ≤ r) = l.any p := by
  rcases h with ⟨rfl, h⟩ | ⟨k, rfl, hk, _, z, hz, hp⟩
  · have : l.any p = false := List.any_eq_false.2 fun z hz => by simp [h z hz]
    rw [this]; rfl
  · have : l.any p = true := List.any_eq_true.2 ⟨z, List.mem_of_getElem? hz, hp⟩
    rw [this]; simp
theorem set_take {α : Type} {s : List α} {i : Nat} {z : α} (h : i < s.length) : (s.set i z).take (i + 1) = s.take i ++ [z] := by
  rw [List.take_add_one, List.getElem?_set_self h, List.take_set_of_le (Nat.le_refl i)]; rfl
theorem delloop {α : Type} (p : α → Bool) (l : List α) (hb : l.length ≤ 1000000000) (F : α → Option Bool) (hF : ∀ z ∈ l, F z = some (p z)) (k : Nat) (hk : k < l.length) (h0 : ∀ z ∈ l.take k, p z = false) (hz : ∃ z, l[k]? = some z ∧ p z = true)
    (B : List α × Int × Int → Option ((List α × Int × Int) ⊕ List α))
    (hB : ∀ t, B t = if t.2.2 < (t.1.length : Int) then (jn (fun (u : List α × Int) => gd (I64 (t.2.2 + 1)) (go (u.1, u.2, (t.2.2 + 1)))) (fun k7 => (at_ t.1 t.2.2).bind (fun z => (F z).bind (fun y => if (!y) = true then ((at_ t.1 t.2.1).bind (fun _ => lt (t.1.set t.2.1.toNat z) (fun ys => gd (I64 (t.2.1 + 1)) (k7 (ys, (t.2.1 + 1)))))) else (k7 (t.1, t.2.1))))))
      else (up (gd ((0 : Int) ≤ t.2.1 ∧ t.2.1 ≤ (t.1.length : Int)) (lt (t.1.take t.2.1.toNat) (fun ys => some ys))))) :
    iter B (l, (k : Int), (k : Int) + 1) = some (l.filter fun z => !p z) := by
  apply Ok.eq
  refine ok_iter (I := fun t => 0 ≤ t.2.1 ∧ t.2.1 < t.2.2 ∧ t.2.2 ≤ l.length ∧ t.1.length = l.length ∧ t.1.take t.2.1.toNat = (l.take t.2.2.toNat).filter (fun z => !p z) ∧ ∀ j, t.2.2.toNat ≤ j → t.1[j]? = l[j]?) (μ := fun t => (l.length - t.2.2).toNat) ?_ ?_
  · rintro ⟨s, i, j⟩ ⟨i0, i1, i2, i3, i4, i5⟩
    dsimp only at i0 i1 i2 i3 i4 i5
    rw [hB]
    dsimp only
    simp only [ok_if, ok_up, ok_gd, ok_lt, ok_some]
    refine ⟨fun hj => ?_, fun hj => ⟨⟨i0, by omega⟩, ?_⟩⟩
    · obtain ⟨z, hz⟩ := at_get (l := l) (i := j) (by omega) (by omega)
      have hs : s[j.toNat]? = some z := by rw [i5 _ (Nat.le_refl _), hz]
      have hzl := List.mem_of_getElem? hz
      refine ok_jnP (fun u => 0 ≤ u.2 ∧ u.2 < j + 1 ∧ u.1.length = l.length ∧ u.1.take u.2.toNat = (l.take (j + 1).toNat).filter (fun z => !p z) ∧ ∀ m, (j + 1).toNat ≤ m → u.1[m]? = l[m]?) ?_ ?_
      · rintro ⟨s', i'⟩ ⟨q1, q2, q3, q4, q5⟩
        simp only [ok_gd, ok_go]
        exact ⟨⟨by omega, by omega⟩, ⟨q1, q2, by omega, q3, q4, q5⟩, by omega⟩
      · intro K hK
        rw [ok_bd, ok_at]
        refine ⟨by omega, z, hs, ?_⟩
        rw [hF z hzl, ok_bd, ok_some, ok_if]
        have hsn : (l.take (j + 1).toNat).filter (fun z => !p z) = (l.take j.toNat).filter (fun z => !p z) ++ (if (!p z) = true then [z] else []) := by rw [take_snoc (by omega) hz, filter_snoc]
        refine ⟨fun hp => ?_, fun hp => hK _ ⟨i0, by omega, i3, by rw [hsn, if_neg hp, List.append_nil]; exact i4, fun m hm => i5 m (by omega)⟩⟩
        obtain ⟨y, hy⟩ := at_get (l := s) (i := i) i0 (by omega)
        rw [ok_bd, ok_at]
        refine ⟨i0, y, hy, ?_⟩
        simp only [ok_lt, ok_gd]
        refine ⟨⟨by omega, by omega⟩, hK _ ⟨by omega, by omega, by simpa using i3, ?_, fun m hm => ?_⟩⟩
        · rw [hsn, if_pos hp, show (i + 1).toNat = i.toNat + 1 by omega, set_take (by omega), i4]
        · rw [List.getElem?_set_ne (by omega)]
          exact i5 m (by omega)
    · rw [i4, List.take_of_length_le (by omega)]
  · obtain ⟨z, hz, hp⟩ := hz
    refine ⟨by dsimp only; omega, by dsimp only; omega, by dsimp only; omega, rfl, ?_, fun j _ => rfl⟩
    dsimp only
    rw [show ((k : Int) + 1).toNat = k + 1 by omega, show ((k : Int)).toNat = k by omega, List.take_add_one, hz, Option.toList, filter_snoc]
    rw [if_neg (by simp [hp]), List.append_nil]
    exact (List.filter_eq_self.2 fun x hx => by simp [h0 x hx]).symm
/-- what an 'and' of the two does: all that has it is left out -/
theorem del_ok {α : Type} (p : α → Bool) (l : List α) (hb : l.length ≤ 1000000000) (F : α → Option Bool) (hF : ∀ z ∈ l, F z = some (p z)) (ix : Option Int) (hix : Ok ix (Fst p l))
    (B : List α × Int × Int → Option ((List α × Int × Int) ⊕ List α))
    (hB : ∀ t, B t = if t.2.2 < (t.1.length : Int) then (jn (fun (u : List α × Int) => gd (I64 (t.2.2 + 1)) (go (u.1, u.2, (t.2.2 + 1)))) (fun k7 => (at_ t.1 t.2.2).bind (fun z => (F z).bind (fun y => if (!y) = true then ((at_ t.1 t.2.1).bind (fun _ => lt (t.1.set t.2.1.toNat z) (fun ys => gd (I64 (t.2.1 + 1)) (k7 (ys, (t.2.1 + 1)))))) else (k7 (t.1, t.2.1))))))
      else (up (gd ((0 : Int) ≤ t.2.1 ∧ t.2.1 ≤ (t.1.length : Int)) (lt (t.1.take t.2.1.toNat) (fun ys => some ys))))) :
    (ix.bind fun y => if y = -1 then some l else gd (I64 (y + 1)) (iter B (l, y, y + 1))) = some (l.filter fun z => !p z) := by
  obtain ⟨r, hr, h⟩ := hix
  rw [hr, Option.bind_some]
  rcases h with ⟨rfl, h⟩ | ⟨k, rfl, hk, h0, hz⟩
  · rw [if_pos rfl]
    exact congrArg some (List.filter_eq_self.2 fun x hx => by simp [h x hx]).symm
  · rw [if_neg (by omega)]
    unfold gd
    rw [if_pos (show I64 ((k : Int) + 1) from ⟨by omega, by omega⟩)]
    exact delloop p l hb F hF k hk h0 hz B hB
end Go.S
end

section
/- Plain laws on texts: split at a byte, blanks at the ends, words. No program in sight. -/
namespace Go.S
open Go
/-- a text, split at a byte -/
def spl (c : UInt8) : List UInt8 → List (List UInt8)
  | [] => [[]]
  | x :: r => if x = c then [] :: spl c r else match spl c r with
    | [] => [[x]]
    | y :: l => (x :: y) :: l
theorem spl_ne (c : UInt8) : ∀ s, spl c s ≠ []
  | [] => by simp [spl]
  | x :: r => by
    unfold spl
    split
    · simp
    · split <;> simp
theorem spl_len (c : UInt8) : ∀ s, (spl c s).length = s.count c + 1
  | [] => by simp [spl]
  | x :: r => by
    have ih := spl_len c r
    unfold spl
    by_cases h : x = c
    · simp [h, ih]
    · rw [if_neg h, List.count_cons_of_ne (by simpa using h)]
      cases hq : spl c r with
      | nil => exact absurd hq (spl_ne c r)
      | cons y l => rw [hq] at ih; simpa using ih
theorem spl_no {c : UInt8} : ∀ {s : List UInt8}, c ∉ s → spl c s = [s]
  | [], _ => rfl
  | x :: r, h => by
    have hx : x ≠ c := fun e => h (by simp [e])
    rw [spl, if_neg hx, spl_no fun e => h (List.mem_cons_of_mem _ e)]
/-- up to the first, and from behind it -/
theorem spl_at {c : UInt8} : ∀ {a : List UInt8} (b : List UInt8), c ∉ a → spl c (a ++ c :: b) = a :: spl c b
  | [], b, _ => by simp [spl]
  | x :: a, b, h => by
    have hx : x ≠ c := fun e => h (by simp [e])
    rw [List.cons_append, spl, if_neg hx, spl_at b fun e => h (List.mem_cons_of_mem _ e)]
/-- one more byte -/
theorem spl_snoc (c x : UInt8) : ∀ s, ∃ l y, spl c s = l ++ [y] ∧ spl c (s ++ [x]) = if x = c then l ++ [y, []] else l ++ [y ++ [x]]
  | [] => ⟨[], [], rfl, by by_cases h : x = c <;> simp [spl, h]⟩
  | z :: r => by
    obtain ⟨l, y, h1, h2⟩ := spl_snoc c x r
    by_cases hz : z = c
    · refine ⟨[] :: l, y, by simp [spl, hz, h1], ?_⟩
      rw [List.cons_append, spl, if_pos hz, h2]
      split <;> rfl
    · cases l with
      | nil =>
        refine ⟨[], z :: y, by simp [spl, hz, h1], ?_⟩
        rw [List.cons_append, spl, if_neg hz, h2]
        by_cases hx : x = c <;> simp [hx]
      | cons a l =>
        refine ⟨(z :: a) :: l, y, by simp [spl, hz, h1], ?_⟩
        rw [List.cons_append, spl, if_neg hz, h2]
        by_cases hx : x = c <;> simp [hx]
theorem ix_no {c : UInt8} : ∀ {s : List UInt8}, c ∉ s → Lib.indexByte s c = -1
  | [], _ => rfl
  | x :: r, h => by
    have hx : (x == c) = false := by simpa using fun e : x = c => h (by simp [e])
    rw [Lib.indexByte, hx, ix_no fun e => h (List.mem_cons_of_mem _ e)]
    rfl
theorem ix_at {c : UInt8} : ∀ {a : List UInt8} (b : List UInt8), c ∉ a → Lib.indexByte (a ++ c :: b) c = a.length
  | [], b, _ => by simp [Lib.indexByte]
  | x :: a, b, h => by
    have hx : (x == c) = false := by simpa using fun e : x = c => h (by simp [e])
    rw [List.cons_append, Lib.indexByte, hx, ix_at b fun e => h (List.mem_cons_of_mem _ e)]
    simp
/-- a text has a byte: what is ahead of it, and behind -/
theorem split_mem {c : UInt8} {s : List UInt8} (h : c ∈ s) : ∃ a b, s = a ++ c :: b ∧ c ∉ a := by
  induction s with
  | nil => cases h
  | cons x r ih =>
    by_cases hx : x = c
    · exact ⟨[], r, by simp [hx], by simp⟩
    · rcases List.mem_cons.1 h with q | q
      · exact absurd q.symm hx
      · obtain ⟨a, b, e, hn⟩ := ih q
        exact ⟨x :: a, b, by simp [e], by simp [hn, Ne.symm hx]⟩
theorem byte_of (c : UInt8) : (c.toNat : Int).toNat.toUInt8 = c := by simp
theorem ixB_eq (s : List UInt8) (c : UInt8) : ixB s (c.toNat : Int) = Lib.indexByte s c := by unfold ixB; rw [byte_of]
theorem index_ok (s : List UInt8) (c : UInt8) : Sh.internal_stringslite_Index s [c] = some (Lib.indexByte s c) := by
  apply Ok.eq
  unfold Sh.internal_stringslite_Index
  simp only [ok_jn, ok_if, ok_bd, ok_some, ok_at]
  refine ⟨fun h => by simp at h, fun _ => ⟨fun h => ?_, fun _ => ⟨fun _ => ⟨by omega, c, rfl, ?_⟩, fun h => by simp at h⟩⟩⟩
  · have : s = [c] := by simpa using (of_decide_eq_true h).symm
    rw [this]; simp [Lib.indexByte]
  · unfold Sh.internal_stringslite_IndexByte
    rw [ixB_eq]; exact Ok.of rfl rfl
theorem sindex_ok (s : List UInt8) (c : UInt8) : Sh.strings_Index s [c] = some (Lib.indexByte s c) := by
  unfold Sh.strings_Index
  rw [index_ok]; rfl
theorem count_ok (s : List UInt8) (c : UInt8) : Sh.strings_Count s [c] = some (s.count c : Int) := by
  apply Ok.eq
  unfold Sh.strings_Count
  rw [if_neg (by simp), if_pos (by simp)]
  simp only [ok_bd, ok_at, ok_some]
  refine ⟨by omega, c, rfl, ?_⟩
  unfold cntB Lib.countByte
  rw [byte_of]
theorem split_ok {s : List UInt8} (c : UInt8) (hs : s.length ≤ 1000000000) : Sh.strings_Split s [c] = some (spl c s) := by
  apply Ok.eq
  unfold Sh.strings_Split Sh.strings_genSplit
  rw [ok_bd]
  have hc : s.count c ≤ s.length := List.count_le_length
  simp only [count_ok, ok_jn, ok_if, ok_bd, ok_gd, ok_lt, ok_some, ok_at]
  refine ⟨fun h => by omega, fun _ => ⟨fun h => by simp at h, fun _ => ⟨fun _ => ?_, fun h => by omega⟩⟩⟩
  have hm : (min ((s.count c : Int) + 1) ((s.length : Int) + 1)) = (s.count c : Int) + 1 := by omega
  rw [hm]
  refine ⟨⟨by omega, by omega⟩, ⟨by omega, by omega⟩, ⟨by omega, by omega⟩, ⟨by omega, by omega⟩, ?_⟩
  refine ok_iter (I := fun t => 0 ≤ t.2.2 ∧ t.2.2 + t.1.count c = s.count c ∧ t.2.1.length = s.count c + 1 ∧ t.2.1.take t.2.2.toNat ++ spl c t.1 = spl c s ∧ t.1.length ≤ s.length) (μ := fun t => t.1.length) ?_ ⟨by simp, by simp, by simp, by simp, by simp⟩
  rintro ⟨x, l, i⟩ ⟨i0, i1, i2, i3, i4⟩
  dsimp only at i0 i1 i2 i3 i4 ⊢
  have fin : c ∉ x → Ok (((at_ l i).bind fun z61_20 => lt (l.set i.toNat x) fun ys4_22 => gd (I64 (i + 1)) (gd ((0 : Int) ≤ (i + 1) ∧ (i + 1) ≤ (ys4_22.length : Int)) (lt (ys4_22.take (i + 1).toNat) fun y65_24 => some y65_24)))) (fun a => a = spl c s) := fun hx => by
    rw [spl_no hx] at i3
    rw [List.count_eq_zero_of_not_mem hx] at i1
    simp only [ok_bd, ok_gd, ok_lt, ok_some, ok_at]
    obtain ⟨z, hz⟩ := at_get (l := l) i0 (by omega)
    refine ⟨i0, z, hz, ⟨by omega, by omega⟩, ⟨by omega, by rw [List.length_set]; omega⟩, ?_⟩
    rw [← i3, show (i + 1).toNat = i.toNat + 1 by omega, List.take_add_one, List.getElem?_set, if_pos rfl, if_pos (get_lt hz), List.take_set_of_le (Nat.le_refl _)]
    simp
  simp only [ok_jn, ok_if, ok_up, ok_bd, ok_gd, ok_lt, ok_go, ok_some, ok_at, sindex_ok] at fin ⊢
  refine ⟨fun hi => ?_, fun hi => ?_⟩
  · have hmem : c ∈ x := List.count_pos_iff.1 (by omega)
    obtain ⟨a, b, e, ha⟩ := split_mem hmem
    subst e
    rw [ix_at b ha]
    have hl : (a ++ c :: b).length = a.length + b.length + 1 := by simp; omega
    have hcb : (a ++ c :: b).count c = b.count c + 1 := by simp [List.count_eq_zero_of_not_mem ha]
    obtain ⟨z, hz⟩ := at_get (l := l) i0 (by omega)
    refine ⟨fun h => by omega, fun _ => ⟨⟨by omega, by omega⟩, ⟨by omega, by omega⟩, i0, z, hz, ⟨by simp; omega, by simp; omega⟩, ⟨by simp; omega, by simp; omega⟩, ⟨by omega, by omega⟩, ⟨by omega, ?_, by simpa using i2, ?_, ?_⟩, ?_⟩⟩
    · simp only [List.length_cons, List.length_nil]
      rw [show ((a.length : Int) + ((0 + 1 : Nat) : Int)).toNat = a.length + 1 by omega]
      have : (a ++ c :: b).drop (a.length + 1) = b := by simp
      rw [this]; omega
    · simp only [List.length_cons, List.length_nil]
      rw [show ((a.length : Int) + ((0 + 1 : Nat) : Int)).toNat = a.length + 1 by omega, show ((a.length : Int) + 0).toNat = a.length by omega]
      have e1 : (a ++ c :: b).drop (a.length + 1) = b := by simp
      have e2 : (a ++ c :: b).take a.length = a := by simp
      rw [e1, e2, ← i3, spl_at b ha, show (i + 1).toNat = i.toNat + 1 by omega, List.take_add_one, List.getElem?_set, if_pos rfl, if_pos (get_lt hz), List.take_set_of_le (Nat.le_refl _)]
      simp
    · simp; omega
    · simp; omega
  · exact fin fun hm => by have := List.count_pos_iff.2 hm; omega
theorem spl_part (c : UInt8) : ∀ (s : List UInt8), ∀ y ∈ spl c s, y.length ≤ s.length
  | [], y, h => by simp [spl] at h; simp [h]
  | x :: r, y, h => by
    have ih := spl_part c r
    unfold spl at h
    split at h
    · rcases List.mem_cons.1 h with q | q
      · simp [q]
      · have := ih y q; simp; omega
    · split at h
      · have := List.mem_singleton.1 h; simp [this]
      · next a l hq =>
        rcases List.mem_cons.1 h with q | q
        · have := ih a (by rw [hq]; simp); simp [q]; omega
        · have := ih y (by rw [hq]; simp [q]); simp; omega
end Go.S
end

section
/- Plain laws on paths. No program in sight. -/
namespace Go.S
open Go
def goodN (n : Nat) : Bool := decide (97 ≤ n ∧ n ≤ 122) || decide (48 ≤ n ∧ n ≤ 57) || decide (n = 46) || decide (n = 45) || decide (n = 95)
theorem good_all : ∀ i : Fin 256, Sh.path_good ((i.val : Nat) : Int) = some (goodN i.val) ∧ Sh.rectoref1_good ((i.val : Nat) : Int) = some (goodN i.val) := by decide +kernel
theorem good_ok (z : UInt8) : Sh.path_good (z.toNat : Int) = some (goodN z.toNat) := (good_all ⟨z.toNat, z.toNat_lt⟩).1
theorem rgood_ok (z : UInt8) : Sh.rectoref1_good (z.toNat : Int) = some (goodN z.toNat) := (good_all ⟨z.toNat, z.toNat_lt⟩).2
/-- whether a part may be -/
def partS (s : List UInt8) : Bool := !(decide (s = []) || decide (s = [46]) || decide (s = [46, 46])) && s.all fun z => goodN z.toNat
theorem all_snoc {α : Type} (p : α → Bool) (l : List α) (z : α) : (l ++ [z]).all p = (l.all p && p z) := by simp
theorem all_false {α : Type} {p : α → Bool} {l : List α} {z : α} (hz : z ∈ l) (h : p z = false) : l.all p = false := by
  cases hq : l.all p with
  | false => rfl
  | true => rw [List.all_eq_true.1 hq z hz] at h; cases h
theorem part_ok {s : List UInt8} (hs : s.length ≤ 1000000000) : Sh.path_part s = some (partS s) := by
  apply Ok.eq
  unfold Sh.path_part partS
  refine ok_jnP (fun q => q = (decide (s = []) || decide (s = [46]) || decide (s = [46, 46]))) ?_ ?_
  · rintro q rfl
    generalize (decide (s = []) || decide (s = [46]) || decide (s = [46, 46])) = q
    simp only [ok_if, ok_some, ok_gd, ok_lt]
    refine ⟨fun h => by rw [h]; rfl, fun h => ⟨by omega, ?_⟩⟩
    have hq : q = false := by simpa using h
    subst hq
    rw [Bool.not_false, Bool.true_and]
    refine ok_iter (I := fun i => 0 ≤ i ∧ i ≤ s.length ∧ (s.take i.toNat).all (fun z => goodN z.toNat) = true) (μ := fun i => (s.length - i).toNat) ?_ ⟨by omega, by omega, by simp⟩
    rintro i ⟨i0, i1, i2⟩
    simp only [ok_if, ok_up, ok_bd, ok_gd, ok_go, ok_some, ok_at, good_ok]
    refine ⟨fun hi => ?_, fun hi => ?_⟩
    · obtain ⟨z, hz⟩ := at_get (l := s) i0 hi
      refine ⟨i0, z, hz, fun hb => ?_, fun hg => ⟨⟨by omega, by omega⟩, ⟨by omega, by omega, ?_⟩, by omega⟩⟩
      · exact (all_false (p := fun z : UInt8 => goodN z.toNat) (List.mem_of_getElem? hz) (by simpa using hb)).symm
      · rw [take_snoc i0 hz, all_snoc, i2]; simpa using hg
    · rw [← i2, show i.toNat = s.length by omega, List.take_length]
  · intro K hK
    simp only [ok_if]
    refine ⟨fun h => hK _ (by simp [h]), fun h1 => ⟨fun h => hK _ (by simp [h]), fun h2 => hK _ (by simp [h1, h2])⟩⟩
/-- what is wrong with a path -/
def checkP (p : List UInt8) : Int := if 64 < p.length then 4 else if (spl 47 p).all partS then 0 else 5
theorem pcheck_ok (p : List UInt8) : Sh.path_Check p = some (checkP p) := by
  apply Ok.eq
  unfold Sh.path_Check checkP
  simp only [ok_if, ok_some]
  refine ⟨fun h => by rw [if_pos (by omega)], fun h => ?_⟩
  rw [if_neg (by omega), split_ok 47 (by omega), Option.bind_some]
  have hpart := spl_part 47 p
  have hlen := spl_len 47 p
  have hcnt : p.count 47 ≤ p.length := List.count_le_length
  generalize spl 47 p = L at *
  refine ok_iter (I := fun i => 0 ≤ i ∧ i ≤ L.length ∧ (L.take i.toNat).all partS = true) (μ := fun i => (L.length - i).toNat) ?_ ⟨by omega, by omega, by simp⟩
  rintro i ⟨i0, i1, i2⟩
  simp only [ok_if, ok_up, ok_bd, ok_gd, ok_go, ok_some, ok_at]
  refine ⟨fun hi => ?_, fun hi => ?_⟩
  · obtain ⟨z, hz⟩ := at_get (l := L) i0 hi
    have := hpart z (List.mem_of_getElem? hz)
    refine ⟨i0, z, hz, Ok.of (part_ok (by omega)) ⟨fun hb => ?_, fun hg => ⟨⟨by omega, by omega⟩, ⟨by omega, by omega, ?_⟩, by omega⟩⟩⟩
    · rw [all_false (List.mem_of_getElem? hz) (by simpa using hb)]; rfl
    · rw [take_snoc i0 hz, all_snoc, i2]; simpa using hg
  · rw [show i.toNat = L.length by omega, List.take_length] at i2
    rw [i2]; rfl
theorem parts_ok {s : List UInt8} (hne : s ≠ []) (hs : s.length ≤ 1000000) : Sh.rectoref1_Parts s = some (spl 47 s) := by
  apply Ok.eq
  unfold Sh.rectoref1_Parts
  rw [if_neg hne, ok_lt]
  refine ok_iter (I := fun t => 0 ≤ t.2 ∧ t.2 ≤ s.length ∧ t.1 = spl 47 (s.take t.2.toNat)) (μ := fun t => (s.length - t.2).toNat) ?_ ⟨by simp, by simp, by simp [spl]⟩
  rintro ⟨o, i⟩ ⟨i0, i1, i2⟩
  dsimp only at i0 i1 i2 ⊢
  simp only [ok_jn, ok_if, ok_up, ok_bd, ok_gd, ok_lt, ok_go, ok_some, ok_at]
  refine ⟨fun hi => ?_, fun hi => ?_⟩
  · obtain ⟨z, hz⟩ := at_get (l := s) i0 hi
    obtain ⟨l, y, h1, h2⟩ := spl_snoc 47 z (s.take i.toNat)
    rw [← take_snoc i0 hz] at h2
    rw [← i2] at h1
    have hlen : o.length ≤ s.length + 1 := by
      rw [i2, spl_len]
      have : (s.take i.toNat).count 47 ≤ (s.take i.toNat).length := List.count_le_length
      rw [List.length_take] at this; omega
    subst h1
    have hl1 : (l ++ [y]).length = l.length + 1 := by simp
    refine ⟨i0, z, hz, fun hb => ?_, fun hb => ?_⟩
    · have hz10 : z = 47 := (byte_eq (n := 47) (by decide)).1 hb
      refine ⟨by simp; omega, ⟨by omega, by omega⟩, ⟨by omega, by omega, ?_⟩, by omega⟩
      rw [h2, if_pos hz10]; simp
    · have hz10 : ¬ z = 47 := fun e => hb ((byte_eq (n := 47) (by decide)).2 e)
      have hyl : y.length ≤ s.length := by
        have := spl_part 47 (s.take i.toNat) y (by rw [← i2]; simp)
        rw [List.length_take] at this; omega
      rw [at_last]
      refine ⟨⟨by omega, by omega⟩, ⟨by omega, by omega⟩, by omega, y, rfl, ⟨by omega, by omega⟩, ⟨i0, by omega, by omega⟩, ?_⟩
      rw [mid1 i0 hz]
      refine ⟨by simp; omega, by omega, y, rfl, ⟨by omega, by omega⟩, ⟨by omega, by omega, ?_⟩, by omega⟩
      rw [h2, if_neg hz10, show ((((l ++ [y]).length : Int) - 1).toNat) = l.length by simp]
      simp
  · rw [i2, show i.toNat = s.length by omega, List.take_length]
theorem rpcheck_ok (p : List UInt8) : Sh.rectoref1_Check p = some (checkP p) := by
  apply Ok.eq
  unfold Sh.rectoref1_Check checkP
  simp only [ok_if, ok_some]
  refine ⟨fun h => by rw [if_pos (by omega)], fun h => ?_⟩
  rw [if_neg (by omega)]
  by_cases hne : p = []
  · subst hne; exact Ok.of (a := (5 : Int)) rfl rfl
  rw [parts_ok hne (by omega), Option.bind_some]
  have hpart := spl_part 47 p
  have hlen := spl_len 47 p
  have hcnt : p.count 47 ≤ p.length := List.count_le_length
  generalize spl 47 p = L at *
  rw [if_neg (by omega)]
  refine ok_iter (I := fun i => 0 ≤ i ∧ i ≤ L.length ∧ (L.take i.toNat).all partS = true) (μ := fun i => (L.length - i).toNat) ?_ ⟨by omega, by omega, by simp⟩
  rintro i ⟨i0, i1, i2⟩
  simp only [ok_if, ok_up, ok_some]
  refine ⟨fun hi => ?_, fun hi => ?_⟩
  · obtain ⟨s, hs⟩ := at_get (l := L) i0 hi
    have hsl := hpart s (List.mem_of_getElem? hs)
    refine ok_jnP (fun _ => partS s = true) ?_ ?_
    · intro _ hg
      simp only [ok_gd, ok_go]
      refine ⟨⟨by omega, by omega⟩, ⟨by omega, by omega, ?_⟩, by omega⟩
      rw [take_snoc i0 hs, all_snoc, i2, hg]; rfl
    · intro K hK
      have bad : partS s = false → (5 : Int) = if L.all partS = true then 0 else 5 := fun q => by rw [all_false (List.mem_of_getElem? hs) q]; rfl
      refine ok_jnP (fun q => q = (decide (s = []) || decide (s = [46]) || decide (s = [46, 46]))) ?_ ?_
      · intro q hq
        simp only [ok_if, ok_up, ok_some]
        refine ⟨fun h => bad (by unfold partS; rw [← hq, h]; rfl), fun h => ?_⟩
        have hq' : q = false := by simpa using h
        have hP : partS s = s.all fun z => goodN z.toNat := by unfold partS; rw [← hq, hq']; simp
        refine ok_iter (I := fun k => 0 ≤ k ∧ k ≤ s.length ∧ (s.take k.toNat).all (fun z => goodN z.toNat) = true) (μ := fun k => (s.length - k).toNat) ?_ ⟨by omega, by omega, by simp⟩
        rintro k ⟨k0, k1, k2⟩
        simp only [ok_if, ok_up, ok_bd, ok_gd, ok_go, ok_some, ok_at, rgood_ok]
        refine ⟨i0, s, hs, fun hk => ?_, fun hk => hK () ?_⟩
        · obtain ⟨z, hz⟩ := at_get (l := s) k0 hk
          refine ⟨i0, s, hs, k0, z, hz, fun hb => bad ?_, fun hg => ⟨⟨by omega, by omega⟩, ⟨by omega, by omega, ?_⟩, by omega⟩⟩
          · rw [hP]; exact all_false (p := fun z : UInt8 => goodN z.toNat) (List.mem_of_getElem? hz) (by simpa using hb)
          · rw [take_snoc k0 hz, all_snoc, k2]; simpa using hg
        · rw [hP, ← k2, show k.toNat = s.length by omega, List.take_length]
      · intro K2 hK2
        simp only [ok_if, ok_bd, ok_at]
        refine ⟨i0, s, hs, fun h => hK2 _ (by simp [h]), fun h1 => ⟨i0, s, hs, fun h => hK2 _ (by simp [h]), fun h2 => ⟨i0, s, hs, hK2 _ (by simp [h1, h2])⟩⟩⟩
  · rw [show i.toNat = L.length by omega, List.take_length] at i2
    rw [i2]; rfl
/-- whether a path lies in a folder -/
def underS (p d : List UInt8) : Bool := if d = [] then !decide (p = []) else decide (d.length + 1 < p.length ∧ p.take (d.length + 1) = d ++ [47])
theorem under_ok {p d : List UInt8} (hd : d.length ≤ 1000000000) : Sh.path_Under p d = some (underS p d) := by
  apply Ok.eq
  unfold Sh.path_Under underS Sh.strings_HasPrefix Sh.internal_stringslite_HasPrefix
  simp only [ok_if, ok_some, ok_gd, ok_lt, ok_bd]
  refine ⟨fun h => by rw [if_pos h], fun h => ⟨⟨by omega, by omega⟩, fun hl => ⟨by simp; omega, ?_⟩, fun hl => ?_⟩⟩
  · rw [if_neg h]
    refine ⟨fun hp => ⟨⟨by omega, by simpa using hp⟩, ?_⟩, fun hp => ?_⟩
    · simp only [List.length_append, List.length_singleton]
      rw [show (((d.length + 1 : Nat)) : Int).toNat = d.length + 1 by omega]
      exact decide_eq_decide.2 ⟨fun q => ⟨by omega, q⟩, fun q => q.2⟩
    · simp at hp; omega
  · rw [if_neg h]
    symm; exact decide_eq_false (by omega)
theorem runder_ok {p d : List UInt8} (hd : d.length ≤ 1000000000) : Sh.rectoref1_Under p d = some (underS p d) := by
  apply Ok.eq
  unfold Sh.rectoref1_Under underS
  simp only [ok_if, ok_some, ok_gd, ok_lt, ok_bd, ok_at]
  refine ⟨fun h => by rw [if_pos h], fun h => ⟨⟨by omega, by omega⟩, fun hl => ⟨⟨by omega, by omega⟩, fun ht => ?_, fun ht => ?_⟩, fun hl => ?_⟩⟩
  · rw [if_neg h]
    rw [Int.toNat_natCast] at ht
    obtain ⟨z, hz⟩ := at_get (l := p) (i := d.length) (by omega) (by omega)
    refine ⟨by omega, z, hz, ?_⟩
    rw [Int.toNat_natCast] at hz
    rw [List.take_add_one, ht, hz]
    refine decide_eq_decide.2 ⟨fun q => ⟨by omega, ?_⟩, fun q => ?_⟩
    · have : z = 47 := (byte_eq (n := 47) (by decide)).1 q
      rw [this]; rfl
    · have := q.2
      simp at this
      rw [this]; rfl
  · rw [if_neg h]
    rw [Int.toNat_natCast] at ht
    symm
    refine decide_eq_false fun q => ht ?_
    have := congrArg (List.take d.length) q.2
    rw [List.take_take, Nat.min_eq_left (by omega), List.take_left] at this
    exact this
  · rw [if_neg h]
    symm; exact decide_eq_false (by omega)
def clashS (a b : List UInt8) : Bool := decide (a ≠ []) && decide (b ≠ []) && (underS a b || underS b a)
theorem clash_ok {a b : List UInt8} (ha : a.length ≤ 1000000000) (hb : b.length ≤ 1000000000) : Sh.path_Clash a b = some (clashS a b) := by
  apply Ok.eq
  unfold Sh.path_Clash clashS
  simp only [ok_if, ok_some, ok_bd, under_ok ha, under_ok hb]
  refine ⟨fun h => by simp [h], fun h => ⟨fun h2 => by simp [h2], fun h2 => ⟨fun h3 => by simp [h, h2, h3], fun h3 => by simp [h, h2, h3]⟩⟩⟩
theorem rclash_ok {a b : List UInt8} (ha : a.length ≤ 1000000000) (hb : b.length ≤ 1000000000) : Sh.rectoref1_Clash a b = some (clashS a b) := by
  apply Ok.eq
  unfold Sh.rectoref1_Clash clashS
  simp only [ok_if, ok_some, ok_bd, runder_ok ha, runder_ok hb]
  refine ⟨fun h => by simp [h], fun h => ⟨fun h2 => by simp [h2], fun h2 => ⟨fun h3 => by simp [h, h2, h3], fun h3 => by simp [h, h2, h3]⟩⟩⟩
theorem compare_ok (a b : List UInt8) : ∃ n, Sh.path_Compare a b = some n ∧ (0 ≤ n ↔ Op.bytesLess a b = false) := by
  unfold Sh.path_Compare Sh.cmp_Compare_string Sh.cmp_isNaN_string
  simp only [Option.bind_some]
  cases h : Op.bytesLess a b with
  | true => exact ⟨-1, by simp [h], by simp⟩
  | false =>
    by_cases he : a = b
    · exact ⟨0, by simp [h, he], by simp⟩
    · exact ⟨1, by simp [h, he], by simp⟩
end Go.S
end

section
/- Plain laws on indexes: what is put, what is dropped. No program in sight. -/
namespace Go.S
open Go
theorem clone15 {l : List IndexEntry} (h : l.length ≤ 4294967296) : Sh.slices_Clone_index_Entry_index_Entry l = some l := by
  unfold Sh.slices_Clone_index_Entry_index_Entry
  simp [lt, gd, h]
theorem clip15 (l : List IndexEntry) : Sh.slices_Clip_index_Entry_index_Entry l = some l := by
  unfold Sh.slices_Clip_index_Entry_index_Entry
  simp [lt, gd]
/-- does an entry give way to a new one -/
def givesS (e x : IndexEntry) : Bool := clashS x.path e.path || (decide (x.path = e.path) && (if e.stage = 1 ∨ e.stage = 2 ∨ e.stage = 3 then decide (x.stage = 0) || decide (x.stage = e.stage) else true))
theorem gives_ok {x e : IndexEntry} (hx : x.path.length ≤ 1000000000) (he : e.path.length ≤ 1000000000) : Sh.index_Put_1 x e = some (givesS e x) := by
  unfold Sh.index_Put_1 Sh.index_gives
  rw [clash_ok hx he]
  simp only [Option.bind_some, jn]
  unfold givesS
  cases clashS x.path e.path with
  | true => simp
  | false =>
    by_cases h1 : x.path = e.path
    · simp only [h1, if_true, Bool.false_eq_true, if_false, decide_true, Bool.true_and, Bool.false_or]
      by_cases a : e.stage = 1
      · by_cases b : x.stage = 0 <;> simp [a, b]
      by_cases a2 : e.stage = 2
      · by_cases b : x.stage = 0 <;> simp [a2, b]
      by_cases a3 : e.stage = 3
      · by_cases b : x.stage = 0 <;> simp [a3, b]
      simp [a, a2, a3]
    · simp [h1]
theorem ix15 (l : List IndexEntry) (e : IndexEntry) (hb : l.length ≤ 1000000000) (hl : ∀ z ∈ l, z.path.length ≤ 1000000000) (he : e.path.length ≤ 1000000000) : Ok (Sh.slices_IndexFunc_index_Entry_index_Entry l e) (Fst (givesS e) l) := by
  unfold Sh.slices_IndexFunc_index_Entry_index_Entry
  exact ixloop (givesS e) l hb (fun z => Sh.index_Put_1 z e) (fun z hz => gives_ok (hl z hz) he) _ fun i => rfl
theorem del15 (l : List IndexEntry) (e : IndexEntry) (hb : l.length ≤ 1000000000) (hl : ∀ z ∈ l, z.path.length ≤ 1000000000) (he : e.path.length ≤ 1000000000) : Sh.slices_DeleteFunc_index_Entry_index_Entry l e = some (l.filter fun z => !givesS e z) := by
  unfold Sh.slices_DeleteFunc_index_Entry_index_Entry
  exact del_ok (givesS e) l hb (fun z => Sh.index_Put_1 z e) (fun z hz => gives_ok (hl z hz) he) _ (ix15 l e hb hl he) _ fun t => rfl
theorem ixd15 (l : List IndexEntry) (p : List UInt8) (hb : l.length ≤ 1000000000) : Ok (Sh.slices_IndexFunc_index_Entry_index_Entry_v4 l p) (Fst (fun z => decide (z.path = p)) l) := by
  unfold Sh.slices_IndexFunc_index_Entry_index_Entry_v4
  exact ixloop (fun z => decide (z.path = p)) l hb (fun z => Sh.index_Drop_1 z p) (fun z hz => rfl) _ fun i => rfl
theorem drop15 (l : List IndexEntry) (p : List UInt8) (hb : l.length ≤ 1000000000) : Sh.index_Drop l p = some (l.filter fun z => !decide (z.path = p)) := by
  unfold Sh.index_Drop
  rw [clone15 (by omega), Option.bind_some]
  have : Sh.slices_DeleteFunc_index_Entry_index_Entry_v2 l p = some (l.filter fun z => !decide (z.path = p)) := by
    unfold Sh.slices_DeleteFunc_index_Entry_index_Entry_v2
    exact del_ok (fun z => decide (z.path = p)) l hb (fun z => Sh.index_Drop_1 z p) (fun z hz => rfl) _ (ixd15 l p hb) _ fun t => rfl
  rw [this, Option.bind_some, clip15]
  rfl
/-- the order of entries -/
def lt2 (a b : IndexEntry) : Prop := a.path < b.path ∨ a.path = b.path ∧ a.stage < b.stage
def bf (a b : IndexEntry) : Bool := Op.bytesLess a.path b.path || (decide (a.path = b.path) && decide (a.stage < b.stage))
theorem bf_iff (a b : IndexEntry) : bf a b = true ↔ lt2 a b := by
  unfold bf lt2
  simp [Go.Proofs.bytesLess_eq]
theorem lt2_irr (a : IndexEntry) : ¬ lt2 a a := by
  rintro (h | ⟨_, h⟩)
  · exact List.lt_irrefl _ h
  · omega
theorem lt2_trans {a b c : IndexEntry} (h : lt2 a b) (k : lt2 b c) : lt2 a c := by
  rcases h with h | ⟨h, h'⟩ <;> rcases k with k | ⟨k, k'⟩
  · exact .inl (List.lt_trans h k)
  · exact .inl (k ▸ h)
  · exact .inl (h ▸ k)
  · exact .inr ⟨h.trans k, by omega⟩
theorem lt2_or (a b : IndexEntry) (h : ¬ (a.path = b.path ∧ a.stage = b.stage)) : lt2 a b ∨ lt2 b a := by
  by_cases h1 : a.path < b.path
  · exact .inl (.inl h1)
  by_cases h2 : b.path < a.path
  · exact .inr (.inl h2)
  have he : a.path = b.path := List.le_antisymm (List.not_lt.1 h2) (List.not_lt.1 h1)
  by_cases h3 : a.stage < b.stage
  · exact .inl (.inr ⟨he, h3⟩)
  · exact .inr (.inr ⟨he.symm, by have : a.stage ≠ b.stage := fun q => h ⟨he, q⟩; omega⟩)
theorem pcmp_ok (a b : List UInt8) : Sh.path_Compare a b = some (if a < b then -1 else if b < a then 1 else 0) := by
  unfold Sh.path_Compare Sh.cmp_Compare_string Sh.cmp_isNaN_string
  simp only [Option.bind_some, decide_true, Bool.not_true, Bool.false_eq_true, if_false, Go.Proofs.bytesLess_eq, decide_eq_true_eq]
  by_cases h1 : a < b
  · simp [h1]
  · simp only [h1, if_false, decide_false, Bool.false_or]
    by_cases h2 : a = b
    · subst h2; simp [List.lt_irrefl]
    · have h3 : b < a := by
        by_cases q : b < a
        · exact q
        · exact absurd (List.le_antisymm (List.not_lt.1 q) (List.not_lt.1 h1)) h2
      simp [h2, h3]
theorem icmp_ok (a b : Int) : Sh.cmp_Compare_int a b = some (if a < b then -1 else if b < a then 1 else 0) := by
  unfold Sh.cmp_Compare_int Sh.cmp_isNaN_int
  simp only [Option.bind_some, decide_true, Bool.not_true, Bool.false_eq_true, if_false]
  split
  · rfl
  · split <;> rfl
theorem or_ok (a b : Int) : Sh.cmp_Or_int [a, b] = some (if a = 0 then b else a) := by
  apply Ok.eq
  unfold Sh.cmp_Or_int
  refine ok_iter (I := fun i => i = 0 ∨ a = 0 ∧ (i = 1 ∨ b = 0 ∧ i = 2)) (μ := fun i => (2 - i).toNat) ?_ (.inl rfl)
  intro i hi
  simp only [ok_if, ok_up, ok_bd, ok_gd, ok_go, ok_some, ok_at, List.length_cons, List.length_nil]
  rcases hi with rfl | ⟨ha, rfl | ⟨hb, rfl⟩⟩
  · refine ⟨fun _ => ⟨by omega, a, rfl, fun h => ⟨⟨by omega, by omega⟩, .inr ⟨h, .inl rfl⟩, by omega⟩, fun h => by rw [if_neg h]⟩, fun h => absurd (by omega) h⟩
  · refine ⟨fun _ => ⟨by omega, b, rfl, fun h => ⟨⟨by omega, by omega⟩, .inr ⟨ha, .inr ⟨h, rfl⟩⟩, by omega⟩, fun h => by rw [if_pos ha]⟩, fun h => absurd (by omega) h⟩
  · refine ⟨fun h => absurd h (by omega), fun _ => by rw [if_pos ha, hb]⟩
theorem cmp15 (a b : IndexEntry) : ∃ n, Sh.index_compare a b = some n ∧ (n < 0 ↔ lt2 a b) := by
  unfold Sh.index_compare
  rw [pcmp_ok, Option.bind_some, icmp_ok, Option.bind_some]
  simp only [lt]
  rw [or_ok]
  refine ⟨_, rfl, ?_⟩
  unfold lt2
  by_cases h1 : a.path < b.path
  · simp [h1]
  · by_cases h2 : b.path < a.path
    · have : a.path ≠ b.path := fun e => List.lt_irrefl _ (e ▸ h2)
      simp [h1, h2, this]
    · have he : a.path = b.path := List.le_antisymm (List.not_lt.1 h2) (List.not_lt.1 h1)
      have hi : ¬ b.path < b.path := List.lt_irrefl _
      simp only [he, hi, if_false, if_true, false_or, true_and]
      by_cases h3 : a.stage < b.stage
      · simp [h3]
      · simp only [h3, if_false, iff_false]
        split <;> omega
/-- entries with one more -/
def putP (l : List IndexEntry) (e : IndexEntry) : List IndexEntry := (l.filter fun z => !givesS e z).takeWhile (bf · e) ++ [e] ++ (l.filter fun z => !givesS e z).dropWhile (bf · e)
theorem tw_snoc {α : Type} {p : α → Bool} {l : List α} {i : Nat} (h : i < l.length) (hall : ∀ z ∈ l.take i, p z = true) (hz : ∀ z, l[i]? = some z → p z = false) : l.takeWhile p = l.take i ∧ l.dropWhile p = l.drop i := by
  have e : l = l.take i ++ l.drop i := (List.take_append_drop i l).symm
  obtain ⟨z, hz'⟩ : ∃ z, l[i]? = some z := ⟨_, List.getElem?_eq_getElem h⟩
  have hd : l.drop i = z :: l.drop (i + 1) := by
    rw [List.drop_eq_getElem_cons h]
    congr 1
    rw [List.getElem?_eq_getElem h] at hz'
    exact Option.some.inj hz'
  have hp := hz z hz'
  constructor
  · conv => lhs; rw [e, List.takeWhile_append_of_pos hall, hd, List.takeWhile_cons_of_neg (by simp [hp]), List.append_nil]
  · conv => lhs; rw [e, List.dropWhile_append_of_pos hall, hd, List.dropWhile_cons_of_neg (by simp [hp])]
    exact hd.symm
theorem tw_all {α : Type} {p : α → Bool} {l : List α} (hall : ∀ z ∈ l, p z = true) : l.takeWhile p = l ∧ l.dropWhile p = [] := by
  have h1 := List.takeWhile_append_of_pos (l₂ := []) hall
  have h2 := List.dropWhile_append_of_pos (l₂ := []) hall
  simp only [List.append_nil, List.takeWhile_nil, List.dropWhile_nil] at h1 h2
  exact ⟨h1, h2⟩
theorem put15 (l : List IndexEntry) (e : IndexEntry) (hb : l.length ≤ 1000000) (hl : ∀ z ∈ l, z.path.length ≤ 1000000000) (he : e.path.length ≤ 1000000000) : Sh.index_Put l e = some (putP l e) := by
  apply Ok.eq
  unfold Sh.index_Put
  rw [clone15 (by omega), Option.bind_some, del15 l e (by omega) hl he, Option.bind_some]
  unfold putP
  have hlen : (l.filter fun z => !givesS e z).length ≤ 1000000 := Nat.le_trans (List.length_filter_le _ _) hb
  generalize l.filter (fun z => !givesS e z) = y at hlen ⊢
  refine ok_jnP (fun i => 0 ≤ i ∧ i ≤ y.length ∧ y.takeWhile (bf · e) = y.take i.toNat ∧ y.dropWhile (bf · e) = y.drop i.toNat) ?_ ?_
  · rintro i ⟨h1, h2, h3, h4⟩
    simp only [ok_lt, ok_gd]
    refine ⟨⟨⟨h1, h2⟩, by simp, by simp; omega⟩, ?_⟩
    rw [clip15, Option.bind_some, ok_some, h3, h4]
  · intro K hK
    refine ok_iter (I := fun i => 0 ≤ i ∧ i ≤ y.length ∧ ∀ z ∈ y.take i.toNat, bf z e = true) (μ := fun i => (y.length - i).toNat) ?_ ⟨by omega, by omega, by simp⟩
    rintro i ⟨i0, i1, i2⟩
    simp only [ok_if, ok_up, ok_bd, ok_some, ok_at]
    refine ⟨fun hi => ?_, fun hi => ?_⟩
    · obtain ⟨z, hz⟩ := at_get i0 hi
      obtain ⟨n, hn, hn2⟩ := cmp15 z e
      refine ⟨i0, z, hz, ?_⟩
      rw [hn, ok_some]
      refine ⟨fun h => ?_, fun h => ?_⟩
      · simp only [ok_gd, ok_go]
        refine ⟨⟨by omega, by omega⟩, ⟨by omega, by omega, fun w hw => ?_⟩, by omega⟩
        rw [take_snoc i0 hz] at hw
        rcases List.mem_append.1 hw with q | q
        · exact i2 w q
        · rw [List.mem_singleton.1 q]; exact (bf_iff z e).2 (hn2.1 h)
      · have := tw_snoc (p := (bf · e)) (l := y) (i := i.toNat) (by omega) i2 (fun w hw => by
          rw [hz] at hw; cases hw
          cases hq : bf z e with
          | false => rfl
          | true => exact absurd (hn2.2 ((bf_iff z e).1 hq)) h)
        exact hK i ⟨i0, i1, this.1, this.2⟩
    · rw [List.take_of_length_le (by omega)] at i2
      have := tw_all i2
      exact hK i ⟨i0, i1, by rw [this.1, List.take_of_length_le (by omega)], by rw [this.2, List.drop_of_length_le (by omega)]⟩
end Go.S
end

section
/- Plain laws on indexes: the document's, and what may be. No program in sight. -/
namespace Go.S
open Go
theorem bool1 : ∀ a b : Bool, (!a && b) = true → true = !(!a && !b) := by decide
theorem bool2 : ∀ a b : Bool, ¬ (!a && b) = true → a = !(!a && !b) := by decide
def toE (x : IndexEntry) : Rectoref14Entry := ⟨x.path, x.stage, x.mode, x.data, x.time, x.size⟩
theorem of15 {l : List IndexEntry} (h : l.length ≤ 1000000) : Sh.rectolaw15_Of l = some (l.map toE) := by
  apply Ok.eq
  unfold Sh.rectolaw15_Of
  refine ok_iter (I := fun t => 0 ≤ t.2 ∧ t.2 ≤ l.length ∧ t.1 = (l.take t.2.toNat).map toE) (μ := fun t => (l.length - t.2).toNat) ?_ ⟨by simp, by simp, by simp⟩
  rintro ⟨o, i⟩ ⟨i0, i1, i2⟩
  dsimp only at i0 i1 i2 ⊢
  simp only [ok_if, ok_up, ok_bd, ok_gd, ok_lt, ok_go, ok_some, ok_at]
  refine ⟨fun hi => ?_, fun hi => ?_⟩
  · obtain ⟨x, hx⟩ := at_get (l := l) i0 hi
    refine ⟨i0, x, hx, ?_, ⟨by omega, by omega⟩, ⟨by omega, by omega, ?_⟩, by omega⟩
    · rw [i2]; simp only [List.length_map, List.length_take, List.length_cons, List.length_nil]; omega
    · rw [take_snoc i0 hx, List.map_append, i2]; rfl
  · rw [i2, List.take_of_length_le (by omega)]
theorem rbefore_ok (a b : IndexEntry) : Sh.rectoref14_before (toE a) (toE b) = some (bf a b) := by
  unfold Sh.rectoref14_before bf toE
  cases h : Op.bytesLess a.path b.path with
  | true => simp [h]
  | false => by_cases h2 : a.path = b.path <;> simp [h, h2]
theorem tw_end {α : Type} (p : α → Bool) (m : List α) (z : α) : (m ++ [z]).takeWhile p = (if m.all p = true then m ++ (if p z = true then [z] else []) else m.takeWhile p) ∧ (m ++ [z]).dropWhile p = (if m.all p = true then (if p z = true then [] else [z]) else m.dropWhile p ++ [z]) := by
  induction m with
  | nil => cases h : p z <;> simp [h]
  | cons a r ih =>
    cases h : p a with
    | false => simp [h]
    | true =>
      simp only [List.cons_append, List.takeWhile_cons, List.dropWhile_cons, h, if_true, ih.1, ih.2, List.all_cons, Bool.true_and]
      constructor
      · split <;> simp
      · trivial
/-- what is put by the document, up to a place -/
def rR (keep q : IndexEntry → Bool) (e : IndexEntry) (m : List IndexEntry) : List IndexEntry := (m.takeWhile q).filter keep ++ (if m.all q = true then [] else [e]) ++ (m.dropWhile q).filter keep
theorem rR_snoc (keep q : IndexEntry → Bool) (e : IndexEntry) (m : List IndexEntry) (z : IndexEntry) :
    rR keep q e (m ++ [z]) = rR keep q e m ++ (if m.all q = true ∧ q z = false then [e] else []) ++ (if keep z = true then [z] else []) := by
  unfold rR
  obtain ⟨h1, h2⟩ := tw_end q m z
  rw [h1, h2]
  cases hm : m.all q with
  | true =>
    have ht := tw_all (p := q) (l := m) (fun x hx => List.all_eq_true.1 hm x hx)
    cases hz : q z with
    | true => cases hk : keep z <;> simp [hm, hz, hk, ht.1, ht.2, List.filter_append]
    | false => cases hk : keep z <;> simp [hm, hz, hk, ht.1, ht.2]
  | false => cases hk : keep z <;> simp [hm, hk, List.filter_append]
def keepR (e z : IndexEntry) : Bool := !(clashS z.path e.path || (decide (z.path = e.path) && (decide (e.stage = 0) || decide (z.stage = 0) || decide (z.stage = e.stage))))
def putR (l : List IndexEntry) (e : IndexEntry) : List IndexEntry := (l.takeWhile (fun z => !bf e z)).filter (keepR e) ++ [e] ++ (l.dropWhile (fun z => !bf e z)).filter (keepR e)
theorem rput15 (l : List IndexEntry) (e : IndexEntry) (hb : l.length ≤ 1000000) (hl : ∀ z ∈ l, z.path.length ≤ 1000000000) (he : e.path.length ≤ 1000000000) : Sh.rectoref14_PutEntry (l.map toE) (toE e) = some ((putR l e).map toE) := by
  apply Ok.eq
  unfold Sh.rectoref14_PutEntry
  have hR : ∀ m : List IndexEntry, (rR (keepR e) (fun z => !bf e z) e m).length ≤ m.length + 1 := fun m => by
    unfold rR
    have h1 := List.length_filter_le (keepR e) (m.takeWhile (fun z => !bf e z))
    have h2 := List.length_filter_le (keepR e) (m.dropWhile (fun z => !bf e z))
    have h3 := congrArg List.length (List.takeWhile_append_dropWhile (p := fun z => !bf e z) (l := m))
    rw [List.length_append] at h3
    simp only [List.length_append]
    split <;> simp <;> omega
  refine ok_iter (I := fun t => 0 ≤ t.2.2 ∧ t.2.2 ≤ l.length ∧ t.1 = (rR (keepR e) (fun z => !bf e z) e (l.take t.2.2.toNat)).map toE ∧ t.2.1 = !(l.take t.2.2.toNat).all (fun z => !bf e z)) (μ := fun t => (l.length - t.2.2).toNat) ?_ ⟨by simp, by simp, by simp [rR], by simp⟩
  rintro ⟨o, pt, i⟩ ⟨i0, i1, i2, i3⟩
  dsimp only at i0 i1 i2 i3 ⊢
  simp only [ok_if, ok_up]
  refine ⟨fun hi => ?_, fun hi => ?_⟩
  · rw [List.length_map] at hi
    obtain ⟨z, hz⟩ := at_get (l := l) i0 hi
    have hz' : (l.map toE)[i.toNat]? = some (toE z) := by rw [List.getElem?_map, hz]; rfl
    have hsn := take_snoc i0 hz
    have hol : o.length ≤ i.toNat + 1 := by
      have := hR (l.take i.toNat)
      rw [i2, List.length_map]
      rw [List.length_take] at this; omega
    refine ok_jnP (fun u => u.1 = (rR (keepR e) (fun z => !bf e z) e (l.take (i + 1).toNat)).map toE ∧ u.2 = !(l.take (i + 1).toNat).all (fun z => !bf e z)) ?_ ?_
    · rintro ⟨o', p'⟩ ⟨q1, q2⟩
      simp only [ok_gd, ok_go]
      exact ⟨⟨by omega, by omega⟩, ⟨by omega, by omega, q1, q2⟩, by omega⟩
    · intro K hK
      rw [ok_bd, ok_at]
      refine ⟨i0, toE z, hz', ?_⟩
      refine ok_jnP (fun g => g = !keepR e z) ?_ ?_
      · rintro g rfl
        refine ok_jnP (fun u => u.1 = (rR (keepR e) (fun z => !bf e z) e (l.take i.toNat) ++ (if (l.take i.toNat).all (fun z => !bf e z) = true ∧ (!bf e z) = false then [e] else [])).map toE ∧ u.2 = !(l.take (i + 1).toNat).all (fun z => !bf e z)) ?_ ?_
        · rintro ⟨o', p'⟩ ⟨q1, q2⟩
          dsimp only at q1 q2 ⊢
          simp only [ok_if, ok_lt, ok_gd]
          refine ⟨fun hk => ⟨?_, hK _ ⟨?_, q2⟩⟩, fun hk => hK _ ⟨?_, q2⟩⟩
          · rw [q1]
            have := hR (l.take i.toNat)
            rw [List.length_take] at this
            simp only [List.length_map, List.length_append, List.length_cons, List.length_nil]
            split <;> simp <;> omega
          · have hk' : keepR e z = true := by simpa using hk
            rw [hsn, rR_snoc, if_pos hk', List.map_append, q1]; rfl
          · have hk' : ¬ keepR e z = true := by simpa using hk
            rw [hsn, rR_snoc, if_neg hk', List.append_nil, q1]
        · intro K2 hK2
          refine ok_jnP (fun b => b = (!pt && bf e z)) ?_ ?_
          · rintro b rfl
            have hall : (l.take (i + 1).toNat).all (fun z => !bf e z) = (!pt && !bf e z) := by rw [hsn, List.all_append, i3]; simp
            simp only [ok_if, ok_lt, ok_gd]
            have hpt : (l.take i.toNat).all (fun z => !bf e z) = !pt := by rw [i3, Bool.not_not]
            refine ⟨fun h => ⟨by simp; omega, hK2 _ ⟨?_, ?_⟩⟩, fun h => hK2 _ ⟨?_, ?_⟩⟩
            · rw [hpt, if_pos (by simpa using h), List.map_append, i2]; rfl
            · rw [hall]; exact bool1 _ _ h
            · rw [hpt, if_neg (by simpa using h), List.append_nil, i2]
            · rw [hall]; exact bool2 _ _ h
          · intro K3 hK3
            simp only [ok_if, ok_bd]
            refine ⟨fun h => ?_, fun h => hK3 _ ?_⟩
            · rw [rbefore_ok, ok_some]
              refine hK3 _ ?_
              cases pt with
              | false => rfl
              | true => cases h
            · cases pt with
              | true => rfl
              | false => exact absurd rfl h
      · intro K2 hK2
        rw [show (toE z).path = z.path from rfl, show (toE e).path = e.path from rfl, rclash_ok (hl z (List.mem_of_getElem? hz)) he, Option.bind_some]
        simp only [ok_if]
        have hs : (toE z).stage = z.stage ∧ (toE e).stage = e.stage := ⟨rfl, rfl⟩
        rw [hs.1, hs.2]
        refine ⟨fun h1 => hK2 _ (by simp [keepR, h1]), fun h1 => ⟨fun h2 => ⟨fun h3 => hK2 _ (by simp [keepR, h2, h3]), fun h3 => ⟨fun h4 => hK2 _ (by simp [keepR, h2, h4]), fun h4 => hK2 _ (by have := Bool.eq_false_iff.2 h1; simp [keepR, h2, h3, h4]; rw [h2] at this; simp [this])⟩⟩, fun h2 => hK2 _ (by have := Bool.eq_false_iff.2 h1; simp [keepR, h2, this])⟩⟩
  · rw [List.length_map] at hi
    have hl' : l.take i.toNat = l := List.take_of_length_le (by omega)
    rw [hl'] at i2 i3
    have := hR l
    simp only [ok_lt, ok_gd, ok_some]
    refine ⟨fun h => ⟨by rw [i2]; simp; omega, ?_⟩, fun h => ?_⟩
    · have hal : l.all (fun z => !bf e z) = true := by rw [i3] at h; simpa using h
      have ht := tw_all (p := fun z => !bf e z) (l := l) (fun x hx => List.all_eq_true.1 hal x hx)
      rw [i2]
      unfold rR putR
      rw [if_pos hal, ht.1, ht.2]
      simp [toE]
    · have hal : ¬ l.all (fun z => !bf e z) = true := by rw [i3] at h; simpa using h
      rw [i2]
      unfold rR putR
      rw [if_neg hal]
end Go.S
end

section
/- Plain laws on indexes: what is put may be. No program in sight. -/
namespace Go.S
open Go
/-- an entry that may be, by itself -/
def vE (e : IndexEntry) : Prop := checkP e.path = 0 ∧ 0 ≤ e.stage ∧ e.stage ≤ 3 ∧ (e.mode = 1 ∨ e.mode = 2) ∧ e.data.length ≤ 4096 ∧ 0 ≤ e.time ∧ 0 ≤ e.size
theorem checkP_len {p : List UInt8} (h : checkP p = 0) : p.length ≤ 64 := by
  unfold checkP at h
  split at h
  · omega
  · omega
def rel15 (a b : IndexEntry) : Prop := lt2 a b ∧ ¬ (a.path = b.path ∧ (a.stage = 0 ∨ b.stage = 0)) ∧ clashS a.path b.path = false
structure GoodI (x : List IndexEntry) : Prop where
  v : ∀ e ∈ x, vE e
  pw : x.Pairwise rel15
theorem clash_comm (a b : List UInt8) : clashS a b = clashS b a := by
  unfold clashS
  rw [Bool.or_comm (underS a b), Bool.and_comm (decide (a ≠ []))]
theorem keep_eq {e z : IndexEntry} (h0 : 0 ≤ e.stage) (h3 : e.stage ≤ 3) : keepR e z = !givesS e z := by
  unfold keepR givesS
  by_cases hs : e.stage = 0
  · simp [hs]
  · have : e.stage = 1 ∨ e.stage = 2 ∨ e.stage = 3 := by omega
    simp [hs, this]
theorem keep_of {e z : IndexEntry} (h : keepR e z = true) : clashS z.path e.path = false ∧ ¬ (z.path = e.path ∧ (e.stage = 0 ∨ z.stage = 0 ∨ z.stage = e.stage)) := by
  unfold keepR at h
  simp only [Bool.not_eq_true', Bool.or_eq_false_iff] at h
  refine ⟨h.1, fun ⟨a, b⟩ => ?_⟩
  have := h.2
  simp [a] at this
  omega
theorem filter_tw {α : Type} (p : α → Bool) (A B : List α) (hA : ∀ z ∈ A, p z = true) (hB : ∀ z ∈ B, p z = false) : (A ++ B).takeWhile p = A ∧ (A ++ B).dropWhile p = B := by
  rw [List.takeWhile_append_of_pos hA, List.dropWhile_append_of_pos hA]
  cases B with
  | nil => simp
  | cons b r =>
    have := hB b (List.mem_cons_self ..)
    simp [this]
theorem dw_all {x : List IndexEntry} {e : IndexEntry} (h : x.Pairwise rel15) : ∀ z ∈ x.dropWhile (fun z => !bf e z), lt2 e z := by
  induction x with
  | nil => intro z hz; cases hz
  | cons a r ih =>
    have hp := List.pairwise_cons.1 h
    intro z hz
    rw [List.dropWhile_cons] at hz
    cases hq : bf e a with
    | true =>
      rw [hq] at hz
      simp only [Bool.not_true, Bool.false_eq_true, if_false] at hz
      have hea := (bf_iff e a).1 hq
      rcases List.mem_cons.1 hz with q | q
      · rw [q]; exact hea
      · exact lt2_trans hea (hp.1 z q).1
    | false =>
      rw [hq] at hz
      simp only [Bool.not_false, if_true] at hz
      exact ih hp.2 z hz
theorem tw_mem {α : Type} {p : α → Bool} : ∀ {l : List α} {z : α}, z ∈ l.takeWhile p → p z = true
  | a :: r, z, h => by
    rw [List.takeWhile_cons] at h
    split at h
    · rcases List.mem_cons.1 h with q | q
      · rw [q]; assumption
      · exact tw_mem q
    · cases h
theorem kept_lt {e z : IndexEntry} (hk : keepR e z = true) (hb : bf e z = false) : lt2 z e := by
  have hne : ¬ (z.path = e.path ∧ z.stage = e.stage) := fun ⟨a, b⟩ => (keep_of hk).2 ⟨a, .inr (.inr b)⟩
  rcases lt2_or z e hne with q | q
  · exact q
  · rw [(bf_iff e z).2 q] at hb; cases hb
theorem put_eq {x : List IndexEntry} {e : IndexEntry} (hg : GoodI x) (he : vE e) : putP x e = putR x e := by
  have hk : (fun z => !givesS e z) = keepR e := funext fun z => (keep_eq he.2.1 he.2.2.1).symm
  unfold putP putR
  rw [hk]
  have hx : x.filter (keepR e) = (x.takeWhile (fun z => !bf e z)).filter (keepR e) ++ (x.dropWhile (fun z => !bf e z)).filter (keepR e) := by
    rw [← List.filter_append, List.takeWhile_append_dropWhile]
  have := filter_tw (bf · e) ((x.takeWhile (fun z => !bf e z)).filter (keepR e)) ((x.dropWhile (fun z => !bf e z)).filter (keepR e)) (fun z hz => by
    obtain ⟨h1, h2⟩ := List.mem_filter.1 hz
    have := tw_mem h1
    exact (bf_iff z e).2 (kept_lt h2 (by simpa using this))) (fun z hz => by
    obtain ⟨h1, h2⟩ := List.mem_filter.1 hz
    have hl := dw_all hg.pw z h1
    cases hq : bf z e with
    | false => rfl
    | true => exact absurd (lt2_trans hl ((bf_iff z e).1 hq)) (lt2_irr e))
  rw [hx, this.1, this.2]
theorem put_good {x : List IndexEntry} {e : IndexEntry} (hg : GoodI x) (he : vE e) : GoodI (putR x e) := by
  unfold putR
  have sub : ((x.takeWhile (fun z => !bf e z)).filter (keepR e) ++ (x.dropWhile (fun z => !bf e z)).filter (keepR e)).Sublist x := by
    rw [← List.filter_append, List.takeWhile_append_dropWhile]
    exact List.filter_sublist
  have hpw := List.Pairwise.sublist sub hg.pw
  rw [List.pairwise_append] at hpw
  constructor
  · intro z hz
    rw [List.append_assoc, List.mem_append, List.mem_append, List.mem_singleton] at hz
    rcases hz with q | q | q
    · exact hg.v z (sub.subset (List.mem_append_left _ q))
    · rw [q]; exact he
    · exact hg.v z (sub.subset (List.mem_append_right _ q))
  · have hle : ∀ z ∈ (x.takeWhile (fun z => !bf e z)).filter (keepR e), rel15 z e := fun z hz => by
      obtain ⟨h1, h2⟩ := List.mem_filter.1 hz
      have := tw_mem h1
      have hk := keep_of h2
      exact ⟨kept_lt h2 (by simpa using this), fun ⟨a, b⟩ => hk.2 ⟨a, b.elim (fun q => .inr (.inl q)) .inl⟩, hk.1⟩
    have hge : ∀ z ∈ (x.dropWhile (fun z => !bf e z)).filter (keepR e), rel15 e z := fun z hz => by
      obtain ⟨h1, h2⟩ := List.mem_filter.1 hz
      have hk := keep_of h2
      exact ⟨dw_all hg.pw z h1, fun ⟨a, b⟩ => hk.2 ⟨a.symm, b.elim .inl (fun q => .inr (.inl q))⟩, by rw [clash_comm]; exact hk.1⟩
    rw [List.append_assoc, List.pairwise_append]
    refine ⟨hpw.1, ?_, fun a ha b hb => ?_⟩
    · exact List.pairwise_append.2 ⟨List.pairwise_singleton _ _, hpw.2.1, fun a ha b hb => by rw [List.mem_singleton.1 ha]; exact hge b hb⟩
    · rw [List.mem_append, List.mem_singleton] at hb
      rcases hb with q | q
      · rw [q]; exact hle a ha
      · exact hpw.2.2 a ha b q
theorem putR_len (x : List IndexEntry) (e : IndexEntry) : (putR x e).length ≤ x.length + 1 := by
  unfold putR
  have h1 := List.length_filter_le (keepR e) (x.takeWhile (fun z => !bf e z))
  have h2 := List.length_filter_le (keepR e) (x.dropWhile (fun z => !bf e z))
  have h3 := congrArg List.length (List.takeWhile_append_dropWhile (p := fun z => !bf e z) (l := x))
  rw [List.length_append] at h3
  simp only [List.length_append, List.length_cons, List.length_nil]
  omega
theorem drop_good {x : List IndexEntry} (p : List UInt8) (hg : GoodI x) : GoodI (x.filter fun z => !decide (z.path = p)) :=
  ⟨fun e he => hg.v e ((List.mem_filter.1 he).1), List.Pairwise.sublist List.filter_sublist hg.pw⟩
theorem rdrop15 (l : List IndexEntry) (p : List UInt8) (hb : l.length ≤ 1000000) : Sh.rectoref14_Drop (l.map toE) p = some ((l.filter fun z => !decide (z.path = p)).map toE) := by
  apply Ok.eq
  unfold Sh.rectoref14_Drop
  refine ok_iter (I := fun t => 0 ≤ t.2 ∧ t.2 ≤ l.length ∧ t.1 = ((l.take t.2.toNat).filter fun z => !decide (z.path = p)).map toE) (μ := fun t => (l.length - t.2).toNat) ?_ ⟨by simp, by simp, by simp⟩
  rintro ⟨o, i⟩ ⟨i0, i1, i2⟩
  dsimp only at i0 i1 i2 ⊢
  simp only [ok_if, ok_up, ok_some]
  refine ⟨fun hi => ?_, fun hi => ?_⟩
  · rw [List.length_map] at hi
    obtain ⟨z, hz⟩ := at_get (l := l) i0 hi
    have hz' : (l.map toE)[i.toNat]? = some (toE z) := by rw [List.getElem?_map, hz]; rfl
    have hsn : (l.take (i + 1).toNat).filter (fun z => !decide (z.path = p)) = (l.take i.toNat).filter (fun z => !decide (z.path = p)) ++ (if (!decide (z.path = p)) = true then [z] else []) := by rw [take_snoc i0 hz, filter_snoc]
    refine ok_jnP (fun u => u = ((l.take (i + 1).toNat).filter fun z => !decide (z.path = p)).map toE) ?_ ?_
    · rintro u rfl
      simp only [ok_gd, ok_go]
      exact ⟨⟨by omega, by omega⟩, ⟨by omega, by omega, (by first | rfl | trivial)⟩, by omega⟩
    · intro K hK
      simp only [ok_bd, ok_at, ok_if, ok_lt, ok_gd]
      refine ⟨i0, toE z, hz', fun h => hK _ ?_, fun h => ⟨i0, toE z, hz', ?_, hK _ ?_⟩⟩
      · have h' : z.path = p := h
        rw [hsn, if_neg (by simp [h']), List.append_nil, i2]
      · have := List.length_filter_le (fun z : IndexEntry => !decide (z.path = p)) (l.take i.toNat)
        rw [List.length_take] at this
        rw [i2]; simp only [List.length_map, List.length_cons, List.length_nil]; omega
      · have h' : ¬ z.path = p := h
        rw [hsn, if_pos (by simp [h']), List.map_append, i2]; rfl
  · rw [List.length_map] at hi
    rw [i2, List.take_of_length_le (by omega)]
theorem wrong1_ok (x e : IndexEntry) : Sh.index_wrong_1 x e = some (decide (x.path = e.path ∧ (x.stage = 0 ∨ e.stage = 0))) := by
  unfold Sh.index_wrong_1 Sh.index_beside
  by_cases h1 : x.path = e.path
  · by_cases h2 : x.stage = 0 <;> simp [h1, h2]
  · simp [h1]
theorem wrong15 {x : List IndexEntry} (hg : GoodI x) (hb : x.length ≤ 1000000) {i : Int} (i0 : 0 ≤ i) (hi : i < x.length) : Sh.index_wrong x i = some 0 := by
  apply Ok.eq
  unfold Sh.index_wrong
  obtain ⟨z, hz⟩ := at_get (l := x) i0 hi
  have hzm := List.mem_of_getElem? hz
  obtain ⟨v1, v2, v3, v4, v5, v6, v7⟩ := hg.v z hzm
  have hpre : ∀ y ∈ x.take i.toNat, rel15 y z := fun y hy => by
    obtain ⟨j, hj⟩ := List.getElem?_of_mem hy
    rw [List.getElem?_take] at hj
    split at hj
    · next hlt =>
      have h1 := (List.getElem?_eq_some_iff.1 hj)
      have h2 := (List.getElem?_eq_some_iff.1 hz)
      have := List.pairwise_iff_getElem.1 hg.pw j i.toNat h1.1 h2.1 hlt
      rw [h1.2, h2.2] at this
      exact this
    · cases hj
  rw [ok_bd, ok_at]
  refine ⟨i0, z, hz, ?_⟩
  rw [pcheck_ok, Option.bind_some, v1, if_pos rfl]
  have hpl : ∀ y ∈ x, y.path.length ≤ 1000000000 := fun y hy => by have := checkP_len (hg.v y hy).1; omega
  refine ok_jnP (fun b => b = false) ?_ ?_
  · rintro b rfl
    rw [if_neg (by simp), if_neg (by omega)]
    refine ok_jnP (fun b => b = false) ?_ ?_
    · rintro b rfl
      rw [if_neg (by simp), ok_gd]
      refine ⟨⟨i0, by omega⟩, ?_⟩
      simp only [ok_lt]
      have hc : Ok (Sh.slices_ContainsFunc_index_Entry_index_Entry_v2 (x.take i.toNat) z) (· = false) := by
        unfold Sh.slices_ContainsFunc_index_Entry_index_Entry_v2 Sh.slices_IndexFunc_index_Entry_index_Entry_v3
        rw [ok_bd]
        refine (ixloop (fun y => clashS y.path z.path) (x.take i.toNat) (by rw [List.length_take]; omega) (fun y => Sh.index_wrong_2 y z) (fun y hy => ?_) _ fun i => rfl).mono fun r hr => ?_
        · unfold Sh.index_wrong_2
          rw [clash_ok (hpl y (List.mem_of_mem_take hy)) (hpl z hzm)]; rfl
        · rw [ok_some, fst_any hr]
          exact List.any_eq_false.2 fun y hy => by simp [(hpre y hy).2.2]
      rw [hc.eq, Option.bind_some, if_neg (by simp), ok_some]
    · intro K hK
      refine ok_jnP (fun b => b = false) ?_ ?_
      · rintro b rfl
        rw [if_neg (by simp), ok_gd]
        refine ⟨⟨i0, by omega⟩, ?_⟩
        simp only [ok_lt]
        have hc : Ok (Sh.slices_ContainsFunc_index_Entry_index_Entry (x.take i.toNat) z) (· = false) := by
          unfold Sh.slices_ContainsFunc_index_Entry_index_Entry Sh.slices_IndexFunc_index_Entry_index_Entry_v2
          rw [ok_bd]
          refine (ixloop (fun y => decide (y.path = z.path ∧ (y.stage = 0 ∨ z.stage = 0))) (x.take i.toNat) (by rw [List.length_take]; omega) (fun y => Sh.index_wrong_1 y z) (fun y hy => wrong1_ok y z) _ fun i => rfl).mono fun r hr => ?_
          rw [ok_some, fst_any hr]
          exact List.any_eq_false.2 fun y hy => by simpa using (hpre y hy).2.1
        rw [hc.eq, Option.bind_some]
        exact hK _ rfl
      · intro K2 hK2
        simp only [ok_if, ok_gd]
        refine ⟨fun h => ⟨⟨by omega, by omega⟩, ?_⟩, fun h => hK2 _ rfl⟩
        obtain ⟨y, hy⟩ := at_get (l := x) (i := i - 1) (by omega) (by omega)
        rw [ok_bd, ok_at]
        refine ⟨by omega, y, hy, ?_⟩
        obtain ⟨n, hn, hn2⟩ := cmp15 y z
        rw [hn, Option.bind_some]
        have hyz : rel15 y z := hpre y (List.mem_of_getElem? (i := (i - 1).toNat) (by rw [List.getElem?_take, if_pos (by omega)]; exact hy))
        have := hn2.2 hyz.1
        exact hK2 _ (decide_eq_false (by omega))
  · intro K hK
    rw [if_neg (by omega), if_neg (by omega)]
    have f : Ok (K (decide (z.size < 0))) _ := hK _ (decide_eq_false (by omega))
    rcases v4 with h | h
    · rw [if_pos h, if_neg (by omega)]; exact f
    · rw [if_neg (by omega), if_pos h, if_neg (by omega)]; exact f
theorem check15 {x : List IndexEntry} (hg : GoodI x) (hb : x.length ≤ 256) : Sh.index_Check x = some Err.nil := by
  apply Ok.eq
  unfold Sh.index_Check
  rw [if_neg (by omega)]
  refine ok_iter (I := fun i => 0 ≤ i ∧ i ≤ x.length) (μ := fun i => (x.length - i).toNat) ?_ ⟨by omega, by omega⟩
  rintro i ⟨i0, i1⟩
  simp only [ok_if, ok_up, ok_some]
  refine ⟨fun hi => ?_, fun _ => trivial⟩
  rw [wrong15 hg (by omega) i0 hi, Option.bind_some, if_pos rfl]
  simp only [ok_gd, ok_go]
  exact ⟨⟨by omega, by omega⟩, ⟨by omega, by omega⟩, by omega⟩
end Go.S
end

section
/- Plain laws on indexes: IndexPlays. No program in sight. -/
namespace Go.S
open Go
theorem single15 (z : IndexEntry) : Ok (Sh.rectoref14_CheckIndex [toE z]) fun w => w.err = 0 → vE z := by
  unfold Sh.rectoref14_CheckIndex
  rw [if_neg (by simp)]
  refine ok_iter (I := fun i => 0 ≤ i ∧ i ≤ 1 ∧ (i = 1 → vE z)) (μ := fun i => (1 - i).toNat) ?_ ⟨by omega, by omega, fun h => absurd h (by omega)⟩
  rintro i ⟨i0, i1, i2⟩
  simp only [ok_if, ok_up, ok_some, List.length_cons, List.length_nil]
  refine ⟨fun hi => ?_, fun hi _ => i2 (by omega)⟩
  obtain rfl : i = 0 := by omega
  rw [ok_bd]
  have he : Ok (Sh.rectoref14_entry [toE z] 0) fun r => r = 0 → vE z := by
    unfold Sh.rectoref14_entry
    rw [ok_bd, ok_at]
    refine ⟨by omega, toE z, rfl, ?_⟩
    rw [show (toE z).path = z.path from rfl, rpcheck_ok, Option.bind_some]
    by_cases hc : checkP z.path = 0
    · rw [if_pos hc]
      refine ok_jnP (fun b => b = false → 0 ≤ z.stage ∧ z.stage ≤ 3 ∧ (z.mode = 1 ∨ z.mode = 2) ∧ 0 ≤ z.time ∧ 0 ≤ z.size) ?_ ?_
      · intro b hb
        simp only [ok_if, ok_some]
        refine ⟨fun _ h => absurd h (by omega), fun hbf => ⟨fun _ h => absurd h (by omega), fun hd => ?_⟩⟩
        have hd' : z.data.length ≤ 4096 := by have : ¬ (4096 : Int) < (z.data.length : Int) := hd; omega
        obtain ⟨a1, a2, a3, a4, a5⟩ := hb (by simpa using hbf)
        have hv : vE z := ⟨hc, a1, a2, a3, hd', a4, a5⟩
        refine ok_jnP (fun b => b = false) ?_ ?_
        · rintro b rfl
          rw [if_neg (by simp)]
          refine ok_iter (I := fun k => k = 0) (μ := fun k => 0) ?_ rfl
          rintro k rfl
          simp only [ok_if, ok_up]
          refine ⟨fun h => absurd h (by omega), fun _ => ?_⟩
          refine ok_iter (I := fun k => k = 0) (μ := fun k => 0) ?_ rfl
          rintro k rfl
          simp only [ok_if, ok_up, ok_some]
          exact ⟨fun h => absurd h (by omega), fun _ _ => hv⟩
        · intro K hK
          rw [if_neg (by omega)]
          exact hK _ rfl
      · intro K hK
        have no : Ok (K true) _ := hK true fun h => by cases h
        have hm : Sh.rectoref14_Mode (toE z).mode = some (decide (z.mode = 1 ∨ z.mode = 2)) := by
          unfold Sh.rectoref14_Mode
          show (if z.mode = 1 then _ else _) = _
          by_cases h : z.mode = 1
          · simp [h]
          · simp only [h, if_false, false_or]; rfl
        rw [hm, Option.bind_some]
        simp only [ok_if]
        refine ⟨fun _ => no, fun h1 => ⟨fun _ => no, fun h2 => ⟨fun _ => no, fun h3 => ⟨fun _ => no, fun h4 => hK _ fun h5 => ?_⟩⟩⟩⟩
        have h1' : ¬ z.stage < 0 := h1
        have h2' : ¬ 3 < z.stage := h2
        have h4' : ¬ z.time < 0 := h4
        have h5' : ¬ z.size < 0 := of_decide_eq_false h5
        refine ⟨by omega, by omega, by by_cases q : z.mode = 1 <;> simp_all, by omega, by omega⟩
    · rw [if_neg hc, ok_some]
      exact fun h => absurd h hc
  refine he.mono fun r hr => ?_
  simp only [ok_if, ok_gd, ok_go]
  refine ⟨fun h => ⟨⟨by omega, by omega⟩, ⟨by omega, by omega, fun _ => hr h⟩, by omega⟩, fun h => ?_⟩
  unfold Sh.rectoref3_At
  simp only [lt, Option.bind_some, ok_up, ok_some]
  exact fun q => absurd q h
theorem all15 {x : List IndexEntry} (h : x.length ≤ 1000000) : Sh.rectolaw15_All x (x.map toE) = some true := by
  unfold Sh.rectolaw15_All
  rw [of15 h, Option.bind_some, if_pos rfl]
  rw [eqloop (fun z w : Rectoref14Entry => z.path = w.path ∧ z.stage = w.stage ∧ z.mode = w.mode ∧ z.data = w.data ∧ z.time = w.time ∧ z.size = w.size) (fun z w => by cases z; cases w; simp) (x.map toE) (x.map toE) rfl (by rw [List.length_map]; omega) _ fun i => rfl]
  simp
theorem few15 (l : List IndexEntry) : Ok (Sh.rectolaw15_Few l) fun b => b = true → l.length ≤ 80 := by
  unfold Sh.rectolaw15_Few
  simp only [ok_if, ok_some]
  refine ⟨fun _ h => (by cases h), fun hl => ?_⟩
  refine ok_iter (I := fun i => 0 ≤ i ∧ i ≤ l.length) (μ := fun i => (l.length - i).toNat) ?_ ⟨by omega, by omega⟩
  rintro i ⟨i0, i1⟩
  simp only [ok_if, ok_up, ok_some]
  refine ⟨fun hi => ?_, fun hi _ => by omega⟩
  obtain ⟨z, hz⟩ := at_get (l := l) i0 hi
  refine ok_jnP (fun _ => True) ?_ ?_
  · intro b _
    simp only [ok_if, ok_up, ok_gd, ok_go, ok_some]
    exact ⟨fun _ h => (by cases h), fun _ => ⟨⟨by omega, by omega⟩, ⟨by omega, by omega⟩, by omega⟩⟩
  · intro K hK
    simp only [ok_bd, ok_at, ok_if]
    exact ⟨i0, z, hz, fun _ => hK _ trivial, fun _ => ⟨i0, z, hz, hK _ trivial⟩⟩
theorem indexPlays_ok (l : List IndexEntry) (drop : List (List UInt8)) : Sh.rectolaw15_IndexPlays l drop = some true := by
  apply Ok.eq
  unfold Sh.rectolaw15_IndexPlays
  rw [known15, Option.bind_some, if_neg (by simp)]
  refine ok_jnP (fun b => b = false → l.length ≤ 80) ?_ ?_
  · intro b hb
    simp only [ok_if, ok_some]
    refine ⟨fun _ => trivial, fun hbf => ?_⟩
    have hl := hb (by simpa using hbf)
    refine ok_iter (I := fun t => 0 ≤ t.2.2 ∧ t.2.2 ≤ l.length ∧ t.2.1 = t.1.map toE ∧ GoodI t.1 ∧ (t.1.length : Int) ≤ t.2.2) (μ := fun t => (l.length - t.2.2).toNat) ?_ ⟨by simp, by simp, rfl, ⟨fun e h => (by cases h), List.Pairwise.nil⟩, by simp⟩
    rintro ⟨x, y, i⟩ ⟨i0, i1, i2, i3, i4⟩
    dsimp only at i0 i1 i2 i3 i4 ⊢
    subst i2
    simp only [ok_if, ok_up, ok_some]
    refine ⟨fun hi => ?_, fun _ => trivial⟩
    obtain ⟨z, hz⟩ := at_get (l := l) i0 hi
    simp only [ok_gd, ok_lt]
    refine ⟨⟨by omega, by omega⟩, ⟨i0, by omega, by omega⟩, ?_⟩
    rw [mid1 i0 hz, of15 (by simp), Option.bind_some]
    refine ok_bd.2 ((single15 z).mono fun w hw => ?_)
    simp only [ok_if, ok_up, ok_some]
    refine ⟨fun hw0 => ?_, fun _ => trivial⟩
    have hv := hw hw0
    have hpz := checkP_len hv.1
    have hpx : ∀ e ∈ x, e.path.length ≤ 1000000000 := fun e he => by have := checkP_len (i3.v e he).1; omega
    have hlen := putR_len x z
    have hgood := put_good i3 hv
    rw [ok_bd, ok_at]
    refine ⟨i0, z, hz, ?_⟩
    rw [put15 x z (by omega) hpx (by omega), Option.bind_some, put_eq i3 hv]
    simp only [ok_gd, ok_lt]
    refine ⟨⟨by omega, by omega⟩, ⟨i0, by omega, by omega⟩, ?_⟩
    rw [of15 (by simp), Option.bind_some, ok_bd, ok_at]
    refine ⟨by omega, toE z, rfl, ?_⟩
    rw [rput15 x z (by omega) hpx (by omega), Option.bind_some]
    refine ok_jnP (fun u => u.2 = u.1.map toE ∧ GoodI u.1 ∧ (u.1.length : Int) ≤ i + 1) ?_ ?_
    · rintro ⟨x', y'⟩ ⟨q1, q2, q3⟩
      dsimp only at q1 q2 q3 ⊢
      subst q1
      refine ok_jnP (fun b => b = false) ?_ ?_
      · rintro b rfl
        rw [if_neg (by simp)]
        simp only [ok_gd, ok_go]
        exact ⟨⟨by omega, by omega⟩, ⟨by omega, by omega, (by first | rfl | trivial), q2, q3⟩, by omega⟩
      · intro K hK
        rw [all15 (by omega), Option.bind_some, if_neg (by simp), check15 q2 (by omega), Option.bind_some]
        exact hK _ (by simp [Err.isNil])
    · intro K hK
      simp only [ok_if]
      refine ⟨fun hd => ?_, fun _ => hK _ ⟨rfl, hgood, by dsimp only; omega⟩⟩
      obtain ⟨p, hp⟩ := at_get (l := drop) i0 hd
      simp only [ok_bd, ok_at, ok_if, ok_up, ok_some]
      refine ⟨i0, p, hp, fun _ => trivial, fun _ => ⟨i0, p, hp, ?_⟩⟩
      rw [drop15 _ p (by omega), ok_some]
      refine ⟨i0, p, hp, ?_⟩
      rw [rdrop15 _ p (by omega), ok_some]
      have := List.length_filter_le (fun z : IndexEntry => !decide (z.path = p)) (putR x z)
      exact hK _ ⟨rfl, drop_good p hgood, by dsimp only; omega⟩
  · intro K hK
    refine ok_bd.2 ((few15 l).mono fun b hb => ?_)
    simp only [ok_if]
    refine ⟨fun _ => hK _ fun h => (by cases h), fun h => hK _ fun _ => hb (by simpa using h)⟩
end Go.S
end

section
/- Plain laws on indexes: IndexStages. No program in sight. -/
namespace Go.S
open Go
theorem clipS (l : List (List UInt8)) : Sh.slices_Clip_string_string l = some l := by
  unfold Sh.slices_Clip_string_string
  simp [lt, gd]
theorem clipF (l : List FilesFile) : Sh.slices_Clip_files_Row_files_File l = some l := by
  unfold Sh.slices_Clip_files_Row_files_File
  simp [lt, gd]
theorem conf15 (l : List IndexEntry) (hb : l.length ≤ 1000000) : Sh.index_Conflicts l = some (compactS (sortS ((l.filter fun z => !decide (z.stage = 0)).map (·.path)))) := by
  apply Ok.eq
  unfold Sh.index_Conflicts
  refine ok_iter (I := fun t => 0 ≤ t.2 ∧ t.2 ≤ l.length ∧ t.1 = ((l.take t.2.toNat).filter fun z => !decide (z.stage = 0)).map (·.path)) (μ := fun t => (l.length - t.2).toNat) ?_ ⟨by simp, by simp, by simp⟩
  rintro ⟨o, i⟩ ⟨i0, i1, i2⟩
  dsimp only at i0 i1 i2 ⊢
  have hlen : o.length ≤ i.toNat := by
    have := List.length_filter_le (fun z : IndexEntry => !decide (z.stage = 0)) (l.take i.toNat)
    rw [List.length_take] at this
    rw [i2, List.length_map]; omega
  simp only [ok_if, ok_up]
  refine ⟨fun hi => ?_, fun hi => ?_⟩
  · obtain ⟨z, hz⟩ := at_get (l := l) i0 hi
    have hsn : (l.take (i + 1).toNat).filter (fun z => !decide (z.stage = 0)) = (l.take i.toNat).filter (fun z => !decide (z.stage = 0)) ++ (if (!decide (z.stage = 0)) = true then [z] else []) := by rw [take_snoc i0 hz, filter_snoc]
    simp only [ok_bd, ok_at, ok_if, ok_lt, ok_gd, ok_go]
    refine ⟨i0, z, hz, fun h => ⟨⟨by omega, by omega⟩, ⟨by omega, by omega, ?_⟩, by omega⟩, fun h => ⟨by simp; omega, ⟨by omega, by omega⟩, ⟨by omega, by omega, ?_⟩, by omega⟩⟩
    · rw [hsn, if_neg (by simp [h]), List.append_nil, i2]
    · rw [hsn, if_pos (by simp [h]), List.map_append, i2]; rfl
  · rw [List.take_of_length_le (by omega)] at i2
    simp only [ok_gd, ok_lt]
    have hs : (sortS o).length = o.length := (sortS_perm o).length_eq
    refine ⟨by omega, by omega, ?_⟩
    rw [clipS, Option.bind_some, ok_some, i2]
theorem stage15 (l : List IndexEntry) (n : Int) (hb : l.length ≤ 1000000) : Ok (Sh.index_Stage l n) fun r => r.length = (l.filter fun z => decide (z.stage = n)).length := by
  unfold Sh.index_Stage
  refine ok_iter (I := fun t => 0 ≤ t.2 ∧ t.2 ≤ l.length ∧ t.1.length = ((l.take t.2.toNat).filter fun z => decide (z.stage = n)).length) (μ := fun t => (l.length - t.2).toNat) ?_ ⟨by simp, by simp, by simp⟩
  rintro ⟨o, i⟩ ⟨i0, i1, i2⟩
  dsimp only at i0 i1 i2 ⊢
  have hlen : o.length ≤ i.toNat := by
    have := List.length_filter_le (fun z : IndexEntry => decide (z.stage = n)) (l.take i.toNat)
    rw [List.length_take] at this
    omega
  simp only [ok_if, ok_up]
  refine ⟨fun hi => ?_, fun hi => ?_⟩
  · obtain ⟨z, hz⟩ := at_get (l := l) i0 hi
    have hsn : (l.take (i + 1).toNat).filter (fun z => decide (z.stage = n)) = (l.take i.toNat).filter (fun z => decide (z.stage = n)) ++ (if (decide (z.stage = n)) = true then [z] else []) := by rw [take_snoc i0 hz, filter_snoc]
    simp only [ok_bd, ok_at, ok_if, ok_lt, ok_gd, ok_go]
    refine ⟨i0, z, hz, fun h => ⟨by simp; omega, ⟨by omega, by omega⟩, ⟨by omega, by omega, ?_⟩, by omega⟩, fun h => ⟨⟨by omega, by omega⟩, ⟨by omega, by omega, ?_⟩, by omega⟩⟩
    · rw [hsn, if_pos (by simp [h])]; simp [i2]
    · rw [hsn, if_neg (by simp [h]), List.append_nil, i2]
  · rw [List.take_of_length_le (by omega)] at i2
    rw [clipF, Option.bind_some, ok_some, i2]
def eS (b : List UInt8) (s : Int) : IndexEntry := ⟨[97], s, 1, b, 0, 0⟩
def z0 : IndexEntry := ⟨[97], 0, 1, [48], 0, 0⟩
def z2 : IndexEntry := ⟨[97], 0, 2, [49], 0, 0⟩
theorem clash_a : clashS [97] [97] = false := by decide
theorem put_S (b : List UInt8) (ks : List Int) (s : Int) (h1 : 1 ≤ s) (h3 : s ≤ 3) (hk : ∀ k ∈ ks, 1 ≤ k ∧ k < s) : putP (ks.map (eS b)) (eS b s) = (ks ++ [s]).map (eS b) := by
  unfold putP
  have hs : s = 1 ∨ s = 2 ∨ s = 3 := by omega
  have hf : (ks.map (eS b)).filter (fun z => !givesS (eS b s) z) = ks.map (eS b) := List.filter_eq_self.2 fun z hz => by
    obtain ⟨k, hk', rfl⟩ := List.mem_map.1 hz
    obtain ⟨a, c⟩ := hk k hk'
    have h0 : ¬ k = 0 := by omega
    have hks : ¬ k = s := by omega
    simp [givesS, eS, clash_a, hs, h0, hks]
  rw [hf]
  have ht := tw_all (p := (bf · (eS b s))) (l := ks.map (eS b)) (fun z hz => by
    obtain ⟨k, hk', rfl⟩ := List.mem_map.1 hz
    obtain ⟨a, c⟩ := hk k hk'
    exact (bf_iff _ _).2 (.inr ⟨rfl, c⟩))
  rw [ht.1, ht.2]
  simp
theorem put_S0 (b : List UInt8) (s : Int) (h1 : 1 ≤ s) (h3 : s ≤ 3) : putP [z0] (eS b s) = [eS b s] := by
  have hs : s = 1 ∨ s = 2 ∨ s = 3 := by omega
  have hf : [z0].filter (fun z => !givesS (eS b s) z) = [] := by simp [givesS, eS, z0, clash_a, hs]
  unfold putP
  rw [hf]; rfl
theorem put_2 (b : List UInt8) (ks : List Int) : putP (ks.map (eS b)) z2 = [z2] := by
  have hf : (ks.map (eS b)).filter (fun z => !givesS z2 z) = [] := List.filter_eq_nil_iff.2 fun z hz => by
    obtain ⟨k, _, rfl⟩ := List.mem_map.1 hz
    simp [givesS, eS, z2, clash_a]
  unfold putP
  rw [hf]; rfl
theorem goodS (b : List UInt8) (hb : b.length ≤ 300) (ks : List Int) (hk : ∀ k ∈ ks, 1 ≤ k ∧ k ≤ 3) (hp : ks.Pairwise (· < ·)) : GoodI (ks.map (eS b)) := by
  constructor
  · intro e he
    obtain ⟨k, hk', rfl⟩ := List.mem_map.1 he
    obtain ⟨a, c⟩ := hk k hk'
    exact ⟨by show checkP [97] = 0; decide, by show 0 ≤ k; omega, c, .inl rfl, by show b.length ≤ 4096; omega, Int.le_refl 0, Int.le_refl 0⟩
  · refine List.pairwise_map.2 (hp.imp_of_mem fun {a c} ha hc h => ⟨.inr ⟨rfl, h⟩, fun ⟨_, q⟩ => ?_, clash_a⟩)
    have q1 := hk a ha
    have q2 := hk c hc
    rcases q with q | q
    · have : a = 0 := q
      omega
    · have : c = 0 := q
      omega
theorem conf_S (b : List UInt8) (ks : List Int) (hk : ∀ k ∈ ks, 1 ≤ k ∧ k ≤ 3) (hn : ks ≠ []) (hl : ks.length ≤ 3) : Ok (Sh.index_Conflicts (ks.map (eS b))) fun r => r.length = 1 := by
  rw [conf15 _ (by rw [List.length_map]; omega), ok_some]
  have hf : (ks.map (eS b)).filter (fun z => !decide (z.stage = 0)) = ks.map (eS b) := List.filter_eq_self.2 fun z hz => by
    obtain ⟨k, hk', rfl⟩ := List.mem_map.1 hz
    have := hk k hk'
    have h0 : ¬ k = 0 := by omega
    simp [eS, h0]
  rw [hf, List.map_map]
  match ks, hn, hl with
  | [_], _, _ => rfl
  | [_, _], _, _ => rfl
  | [_, _, _], _, _ => rfl
  | _ :: _ :: _ :: _ :: _, _, h => exact absurd h (by simp)
theorem stage_S (b : List UInt8) (ks : List Int) (hk : ∀ k ∈ ks, 1 ≤ k ∧ k ≤ 3) (hl : ks.length ≤ 3) : Ok (Sh.index_Stage (ks.map (eS b)) 0) fun r => r.length = 0 := by
  refine (stage15 _ 0 (by rw [List.length_map]; omega)).mono fun r hr => ?_
  rw [hr, List.length_eq_zero_iff]
  exact List.filter_eq_nil_iff.2 fun z hz => by
    obtain ⟨k, hk', rfl⟩ := List.mem_map.1 hz
    have := hk k hk'
    have h0 : ¬ k = 0 := by omega
    simp [eS, h0]
theorem pathS (b : List UInt8) (ks : List Int) : ∀ z ∈ ks.map (eS b), z.path.length ≤ 1000000000 := fun z hz => by
  obtain ⟨k, _, rfl⟩ := List.mem_map.1 hz
  show ([97] : List UInt8).length ≤ _
  decide
theorem indexStages_ok (b : List UInt8) (w : Int) (hw : 0 ≤ w ∧ w ≤ 255) : Sh.rectolaw15_IndexStages b w = some true := by
  apply Ok.eq
  unfold Sh.rectolaw15_IndexStages
  rw [known15, Option.bind_some, if_neg (by simp)]
  simp only [ok_if, ok_some]
  refine ⟨fun _ => trivial, fun hb => ?_⟩
  have hb' : b.length ≤ 300 := by omega
  have hz : Sh.index_Put [] (⟨[97], 0, 1, [48], 0, 0⟩ : IndexEntry) = some [z0] := by
    rw [put15 [] _ (by simp) (fun z h => by cases h) (by decide)]; rfl
  rw [hz, Option.bind_some]
  refine ok_iter (I := fun t => 1 ≤ t.2.2 ∧ t.2.2 ≤ 4 ∧ (t.2.1 = 0 ∧ t.1 = [z0] ∨ ∃ ks : List Int, ks ≠ [] ∧ t.2.1 = ks.length ∧ t.1 = ks.map (eS b) ∧ (∀ k ∈ ks, 1 ≤ k ∧ k < t.2.2) ∧ ks.Pairwise (· < ·) ∧ (ks.length : Int) < t.2.2)) (μ := fun t => (4 - t.2.2).toNat) ?_ ⟨by simp, by simp, .inl ⟨rfl, rfl⟩⟩
  rintro ⟨l, n, s⟩ ⟨s1, s4, hI⟩
  dsimp only at s1 s4 hI ⊢
  simp only [ok_if, ok_up]
  refine ⟨fun hs => ?_, fun hs => ?_⟩
  · refine ok_jnP (fun u => u.2 = 0 ∧ u.1 = [z0] ∨ ∃ ks : List Int, ks ≠ [] ∧ u.2 = ks.length ∧ u.1 = ks.map (eS b) ∧ (∀ k ∈ ks, 1 ≤ k ∧ k < s + 1) ∧ ks.Pairwise (· < ·) ∧ (ks.length : Int) < s + 1) ?_ ?_
    · rintro ⟨l', n'⟩ h
      simp only [ok_gd, ok_go]
      exact ⟨⟨by omega, by omega⟩, ⟨by omega, by omega, h⟩, by omega⟩
    · intro K hK
      have hwr : IntKind.wrap .u64 s = s := IntWalk.u64_in _ (by omega)
      rw [ok_gd, hwr]
      refine ⟨by omega, ?_⟩
      simp only [ok_if]
      refine ⟨fun _ => ?_, fun _ => ?_⟩
      · rcases hI with ⟨rfl, rfl⟩ | ⟨ks, k1, k2, rfl, k4, k5, k6⟩
        · rw [show (⟨[97], s, 1, b, 0, 0⟩ : IndexEntry) = eS b s from rfl, put15 [z0] (eS b s) (by simp) (fun z h => by rw [List.mem_singleton.1 h]; decide) (by show ([97] : List UInt8).length ≤ _; decide), put_S0 b s s1 hs, Option.bind_some, ok_gd]
          exact ⟨⟨by omega, by omega⟩, hK _ (.inr ⟨[s], by simp, rfl, rfl, fun k hk => by rw [List.mem_singleton.1 hk]; omega, List.pairwise_singleton _ _, by simp; omega⟩)⟩
        · rw [show (⟨[97], s, 1, b, 0, 0⟩ : IndexEntry) = eS b s from rfl, put15 _ (eS b s) (by rw [List.length_map]; omega) (pathS b ks) (by show ([97] : List UInt8).length ≤ _; decide), put_S b ks s s1 hs k4, Option.bind_some, ok_gd]
          refine ⟨⟨by omega, by omega⟩, hK _ (.inr ⟨ks ++ [s], by simp, by simp [k2], rfl, fun k hk => ?_, ?_, by simp; omega⟩)⟩
          · rcases List.mem_append.1 hk with q | q
            · have := k4 k q; omega
            · rw [List.mem_singleton.1 q]; omega
          · exact List.pairwise_append.2 ⟨k5, List.pairwise_singleton _ _, fun a ha c hc => by rw [List.mem_singleton.1 hc]; exact (k4 a ha).2⟩
      · refine hK _ (hI.imp id fun ⟨ks, k1, k2, k3, k4, k5, k6⟩ => ⟨ks, k1, k2, k3, fun k hk => by have := k4 k hk; omega, k5, by omega⟩)
  · rcases hI with ⟨rfl, rfl⟩ | ⟨ks, k1, k2, rfl, k4, k5, k6⟩
    · rw [conf15 [z0] (by simp), Option.bind_some]
      refine ok_bd.2 ((stage15 [z0] 0 (by simp)).mono fun r hr => ?_)
      rw [if_pos rfl]
      have h1 : r.length = 1 := hr.trans rfl
      have h2 : (compactS (sortS (([z0].filter fun z => !decide (z.stage = 0)).map (·.path)))).length = 0 := rfl
      rw [if_pos (by rw [h2]; rfl), ok_some, h1]
      rfl
    · have hks : ∀ k ∈ ks, 1 ≤ k ∧ k ≤ 3 := fun k hk => by have := k4 k hk; omega
      have hpos : 0 < ks.length := List.length_pos_iff.2 k1
      have hlen : (ks.map (eS b)).length = ks.length := List.length_map _
      refine ok_bd.2 ((conf_S b ks hks k1 (by omega)).mono fun c hc => ?_)
      refine ok_bd.2 ((stage_S b ks hks (by omega)).mono fun z hz => ?_)
      rw [if_neg (by omega)]
      refine ok_jnP (fun x => x = false) ?_ ?_
      · rintro x rfl
        rw [if_neg (by simp), show (⟨[97], 0, 2, [49], 0, 0⟩ : IndexEntry) = z2 from rfl, put15 _ z2 (by omega) (pathS b ks) (by show ([97] : List UInt8).length ≤ _; decide), put_2, Option.bind_some, if_pos (show (([z2].length : Nat) : Int) = 1 from rfl), ok_bd, ok_at]
        refine ⟨by omega, z2, rfl, ?_⟩
        rw [if_pos (show z2.stage = 0 from rfl), ok_bd, ok_at]
        refine ⟨by omega, z2, rfl, ?_⟩
        rw [if_pos (show z2.data = [49] from rfl), conf15 [z2] (by simp), Option.bind_some]
        have h2 : (compactS (sortS (([z2].filter fun z => !decide (z.stage = 0)).map (·.path)))).length = 0 := rfl
        rw [if_pos (by rw [h2]; rfl), ok_some]
        exact decide_eq_true (by rw [hlen, k2])
      · intro K hK
        rw [if_pos (by rw [hlen, k2]), if_pos (by rw [hc]; rfl), if_pos (by rw [hz]; rfl), check15 (goodS b hb' ks hks k5) (by omega), Option.bind_some]
        exact hK _ (by simp [Err.isNil])
end Go.S
end
