/- Part of the proofs of: What differs between two rows turns the one into the other, and RowTwo: the two ways of saying it agree. -/
import Derived.Test.YtipnlckfohhkbaaDoorTC
set_option linter.unusedVariables false
set_option linter.unusedSimpArgs false
set_option linter.unusedSectionVars false
section
set_option linter.unusedVariables false
namespace Go.Proofs.YtipnlckfohhkbaaDoor
open Go.RowKit Go.V
open Go.S hiding Str
set_option maxHeartbeats 4000000 in
set_option maxRecDepth 100000 in
theorem rectoref1_good_ct (c_0 : Int) {r : Bool} (hS : Sh.rectoref1_good c_0 = some r) :
    Ct Tryd.prog 102 [.int .u8 c_0] Mo.tt (Ow.emp) (X := Unit) (fun _ => .bool r) (fun _ => True) (fun _ => Mo.tt) (fun _ => Ow.emp) := by
  refine Ct.of Tryd.func102 rfl (by kernel_rfl) Tryd.ntmps102 (by simp) fun c => ?_
  unfold Sh.rectoref1_good at hS
  refine VC.seq ?_
  refine VC.region ?_
  refine VL.q (q_assign rfl) (by decide) ?_
  refine VL.to (fun _ _ h => h) ?_
  refine VC.seq ?_
  refine VC.region ?_
  refine VL.q (q_move rfl) (by decide) ?_
  refine VL.q (q_geq rfl rfl) (by decide) ?_
  refine VL.q (q_move rfl) (by decide) ?_
  refine VL.split_dec 5 rfl (fun h5 => ?_) (fun h5 => ?_)
  ·
    replace hS := it_t h5 hS
    refine VL.gy rfl rfl (q_move rfl) (by decide) ?_
    refine VL.gy rfl rfl (q_leq rfl rfl) (by decide) ?_
    refine VL.q (q_pick_t rfl rfl) (by decide) ?_
    refine VL.q (q_move rfl) (by decide) ?_
    refine VL.split_dec 9 rfl (fun h9 => ?_) (fun h9 => ?_)
    ·
      replace hS := it_t h9 hS
      refine VL.gn rfl rfl rfl (by decide) ?_
      refine VL.gn rfl rfl rfl (by decide) ?_
      refine VL.gn rfl rfl rfl (by decide) ?_
      refine VL.gu rfl rfl (by decide) ?_
      refine VL.gu rfl rfl (by decide) ?_
      refine VL.gn rfl rfl rfl (by decide) ?_
      refine VL.q (q_pick_t rfl rfl) (by decide) ?_
      refine VL.q (q_move rfl) (by decide) ?_
      refine VL.gn rfl rfl rfl (by decide) ?_
      refine VL.gn rfl rfl rfl (by decide) ?_
      refine VL.q (q_pick_t rfl rfl) (by decide) ?_
      refine VL.q (q_move rfl) (by decide) ?_
      refine VL.gn rfl rfl rfl (by decide) ?_
      refine VL.gn rfl rfl rfl (by decide) ?_
      refine VL.q (q_pick_t rfl rfl) (by decide) ?_
      refine VL.q (q_move rfl) (by decide) ?_
      refine VL.gn rfl rfl rfl (by decide) ?_
      refine VL.gn rfl rfl rfl (by decide) ?_
      refine VL.q (q_pick_t rfl rfl) (by decide) ?_
      refine VL.q (q_assign rfl) (by decide) ?_
      refine VL.to (fun _ _ h => h) ?_
      refine VC.keep [2] rfl ?_
      cases hS
      exact VC.ret (fin1 (.inr rfl) rfl rfl () rfl trivial (fun _ _ => trivial) (fun _ _ => trivial))
    ·
      replace hS := it_f h9 hS
      refine VL.gy rfl rfl (q_move rfl) (by decide) ?_
      refine VL.gy rfl rfl (q_geq rfl rfl) (by decide) ?_
      refine VL.gy rfl rfl (q_move rfl) (by decide) ?_
      refine VL.split_dec 12 rfl (fun h12 => ?_) (fun h12 => ?_)
      ·
        replace hS := it_t h12 hS
        refine VL.gy rfl rfl (q_move rfl) (by decide) ?_
        refine VL.gy rfl rfl (q_leq rfl rfl) (by decide) ?_
        refine VL.gy rfl rfl (q_pick_t rfl rfl) (by decide) ?_
        refine VL.q (q_pick_f rfl rfl) (by decide) ?_
        refine VL.q (q_move rfl) (by decide) ?_
        refine VL.split_dec 17 rfl (fun h17 => ?_) (fun h17 => ?_)
        ·
          replace hS := it_t h17 hS
          refine VL.gn rfl rfl rfl (by decide) ?_
          refine VL.gn rfl rfl rfl (by decide) ?_
          refine VL.q (q_pick_t rfl rfl) (by decide) ?_
          refine VL.q (q_move rfl) (by decide) ?_
          refine VL.gn rfl rfl rfl (by decide) ?_
          refine VL.gn rfl rfl rfl (by decide) ?_
          refine VL.q (q_pick_t rfl rfl) (by decide) ?_
          refine VL.q (q_move rfl) (by decide) ?_
          refine VL.gn rfl rfl rfl (by decide) ?_
          refine VL.gn rfl rfl rfl (by decide) ?_
          refine VL.q (q_pick_t rfl rfl) (by decide) ?_
          refine VL.q (q_assign rfl) (by decide) ?_
          refine VL.to (fun _ _ h => h) ?_
          refine VC.keep [2] rfl ?_
          cases hS
          exact VC.ret (fin1 (.inr rfl) rfl rfl () rfl trivial (fun _ _ => trivial) (fun _ _ => trivial))
        ·
          replace hS := it_f h17 hS
          refine VL.gy rfl rfl (q_move rfl) (by decide) ?_
          refine VL.gy rfl rfl (q_eql rfl rfl) (by decide) ?_
          refine VL.q (q_pick_f rfl rfl) (by decide) ?_
          refine VL.q (q_move rfl) (by decide) ?_
          refine VL.split_dec 21 rfl (fun h21 => ?_) (fun h21 => ?_)
          ·
            replace hS := it_t h21 hS
            refine VL.gn rfl rfl rfl (by decide) ?_
            refine VL.gn rfl rfl rfl (by decide) ?_
            refine VL.q (q_pick_t rfl rfl) (by decide) ?_
            refine VL.q (q_move rfl) (by decide) ?_
            refine VL.gn rfl rfl rfl (by decide) ?_
            refine VL.gn rfl rfl rfl (by decide) ?_
            refine VL.q (q_pick_t rfl rfl) (by decide) ?_
            refine VL.q (q_assign rfl) (by decide) ?_
            refine VL.to (fun _ _ h => h) ?_
            refine VC.keep [2] rfl ?_
            cases hS
            exact VC.ret (fin1 (.inr rfl) rfl rfl () rfl trivial (fun _ _ => trivial) (fun _ _ => trivial))
          ·
            replace hS := it_f h21 hS
            refine VL.gy rfl rfl (q_move rfl) (by decide) ?_
            refine VL.gy rfl rfl (q_eql rfl rfl) (by decide) ?_
            refine VL.q (q_pick_f rfl rfl) (by decide) ?_
            refine VL.q (q_move rfl) (by decide) ?_
            refine VL.split_dec 25 rfl (fun h25 => ?_) (fun h25 => ?_)
            ·
              replace hS := it_t h25 hS
              refine VL.gn rfl rfl rfl (by decide) ?_
              refine VL.gn rfl rfl rfl (by decide) ?_
              refine VL.q (q_pick_t rfl rfl) (by decide) ?_
              refine VL.q (q_assign rfl) (by decide) ?_
              refine VL.to (fun _ _ h => h) ?_
              refine VC.keep [2] rfl ?_
              cases hS
              exact VC.ret (fin1 (.inr rfl) rfl rfl () rfl trivial (fun _ _ => trivial) (fun _ _ => trivial))
            ·
              replace hS := it_f h25 hS
              refine VL.gy rfl rfl (q_move rfl) (by decide) ?_
              refine VL.gy rfl rfl (q_eql rfl rfl) (by decide) ?_
              refine VL.q (q_pick_f rfl rfl) (by decide) ?_
              refine VL.q (q_assign rfl) (by decide) ?_
              refine VL.to (fun _ _ h => h) ?_
              refine VC.keep [2] rfl ?_
              cases hS
              exact VC.ret (fin1 (.inr rfl) rfl rfl () rfl trivial (fun _ _ => trivial) (fun _ _ => trivial))
      ·
        replace hS := it_f h12 hS
        refine VL.gn rfl rfl rfl (by decide) ?_
        refine VL.gn rfl rfl rfl (by decide) ?_
        refine VL.gy rfl rfl (q_pick_f rfl rfl) (by decide) ?_
        refine VL.q (q_pick_f rfl rfl) (by decide) ?_
        refine VL.q (q_move rfl) (by decide) ?_
        refine VL.gy rfl rfl (q_move rfl) (by decide) ?_
        refine VL.gy rfl rfl (q_eql rfl rfl) (by decide) ?_
        refine VL.q (q_pick_f rfl rfl) (by decide) ?_
        refine VL.q (q_move rfl) (by decide) ?_
        refine VL.split_dec 21 rfl (fun h21 => ?_) (fun h21 => ?_)
        ·
          replace hS := it_t h21 hS
          refine VL.gn rfl rfl rfl (by decide) ?_
          refine VL.gn rfl rfl rfl (by decide) ?_
          refine VL.q (q_pick_t rfl rfl) (by decide) ?_
          refine VL.q (q_move rfl) (by decide) ?_
          refine VL.gn rfl rfl rfl (by decide) ?_
          refine VL.gn rfl rfl rfl (by decide) ?_
          refine VL.q (q_pick_t rfl rfl) (by decide) ?_
          refine VL.q (q_assign rfl) (by decide) ?_
          refine VL.to (fun _ _ h => h) ?_
          refine VC.keep [2] rfl ?_
          cases hS
          exact VC.ret (fin1 (.inr rfl) rfl rfl () rfl trivial (fun _ _ => trivial) (fun _ _ => trivial))
        ·
          replace hS := it_f h21 hS
          refine VL.gy rfl rfl (q_move rfl) (by decide) ?_
          refine VL.gy rfl rfl (q_eql rfl rfl) (by decide) ?_
          refine VL.q (q_pick_f rfl rfl) (by decide) ?_
          refine VL.q (q_move rfl) (by decide) ?_
          refine VL.split_dec 25 rfl (fun h25 => ?_) (fun h25 => ?_)
          ·
            replace hS := it_t h25 hS
            refine VL.gn rfl rfl rfl (by decide) ?_
            refine VL.gn rfl rfl rfl (by decide) ?_
            refine VL.q (q_pick_t rfl rfl) (by decide) ?_
            refine VL.q (q_assign rfl) (by decide) ?_
            refine VL.to (fun _ _ h => h) ?_
            refine VC.keep [2] rfl ?_
            cases hS
            exact VC.ret (fin1 (.inr rfl) rfl rfl () rfl trivial (fun _ _ => trivial) (fun _ _ => trivial))
          ·
            replace hS := it_f h25 hS
            refine VL.gy rfl rfl (q_move rfl) (by decide) ?_
            refine VL.gy rfl rfl (q_eql rfl rfl) (by decide) ?_
            refine VL.q (q_pick_f rfl rfl) (by decide) ?_
            refine VL.q (q_assign rfl) (by decide) ?_
            refine VL.to (fun _ _ h => h) ?_
            refine VC.keep [2] rfl ?_
            cases hS
            exact VC.ret (fin1 (.inr rfl) rfl rfl () rfl trivial (fun _ _ => trivial) (fun _ _ => trivial))
  ·
    replace hS := it_f h5 hS
    refine VL.gn rfl rfl rfl (by decide) ?_
    refine VL.gn rfl rfl rfl (by decide) ?_
    refine VL.q (q_pick_f rfl rfl) (by decide) ?_
    refine VL.q (q_move rfl) (by decide) ?_
    refine VL.gy rfl rfl (q_move rfl) (by decide) ?_
    refine VL.gy rfl rfl (q_geq rfl rfl) (by decide) ?_
    refine VL.gy rfl rfl (q_move rfl) (by decide) ?_
    refine VL.split_dec 12 rfl (fun h12 => ?_) (fun h12 => ?_)
    ·
      replace hS := it_t h12 hS
      refine VL.gy rfl rfl (q_move rfl) (by decide) ?_
      refine VL.gy rfl rfl (q_leq rfl rfl) (by decide) ?_
      refine VL.gy rfl rfl (q_pick_t rfl rfl) (by decide) ?_
      refine VL.q (q_pick_f rfl rfl) (by decide) ?_
      refine VL.q (q_move rfl) (by decide) ?_
      refine VL.split_dec 17 rfl (fun h17 => ?_) (fun h17 => ?_)
      ·
        replace hS := it_t h17 hS
        refine VL.gn rfl rfl rfl (by decide) ?_
        refine VL.gn rfl rfl rfl (by decide) ?_
        refine VL.q (q_pick_t rfl rfl) (by decide) ?_
        refine VL.q (q_move rfl) (by decide) ?_
        refine VL.gn rfl rfl rfl (by decide) ?_
        refine VL.gn rfl rfl rfl (by decide) ?_
        refine VL.q (q_pick_t rfl rfl) (by decide) ?_
        refine VL.q (q_move rfl) (by decide) ?_
        refine VL.gn rfl rfl rfl (by decide) ?_
        refine VL.gn rfl rfl rfl (by decide) ?_
        refine VL.q (q_pick_t rfl rfl) (by decide) ?_
        refine VL.q (q_assign rfl) (by decide) ?_
        refine VL.to (fun _ _ h => h) ?_
        refine VC.keep [2] rfl ?_
        cases hS
        exact VC.ret (fin1 (.inr rfl) rfl rfl () rfl trivial (fun _ _ => trivial) (fun _ _ => trivial))
      ·
        replace hS := it_f h17 hS
        refine VL.gy rfl rfl (q_move rfl) (by decide) ?_
        refine VL.gy rfl rfl (q_eql rfl rfl) (by decide) ?_
        refine VL.q (q_pick_f rfl rfl) (by decide) ?_
        refine VL.q (q_move rfl) (by decide) ?_
        refine VL.split_dec 21 rfl (fun h21 => ?_) (fun h21 => ?_)
        ·
          replace hS := it_t h21 hS
          refine VL.gn rfl rfl rfl (by decide) ?_
          refine VL.gn rfl rfl rfl (by decide) ?_
          refine VL.q (q_pick_t rfl rfl) (by decide) ?_
          refine VL.q (q_move rfl) (by decide) ?_
          refine VL.gn rfl rfl rfl (by decide) ?_
          refine VL.gn rfl rfl rfl (by decide) ?_
          refine VL.q (q_pick_t rfl rfl) (by decide) ?_
          refine VL.q (q_assign rfl) (by decide) ?_
          refine VL.to (fun _ _ h => h) ?_
          refine VC.keep [2] rfl ?_
          cases hS
          exact VC.ret (fin1 (.inr rfl) rfl rfl () rfl trivial (fun _ _ => trivial) (fun _ _ => trivial))
        ·
          replace hS := it_f h21 hS
          refine VL.gy rfl rfl (q_move rfl) (by decide) ?_
          refine VL.gy rfl rfl (q_eql rfl rfl) (by decide) ?_
          refine VL.q (q_pick_f rfl rfl) (by decide) ?_
          refine VL.q (q_move rfl) (by decide) ?_
          refine VL.split_dec 25 rfl (fun h25 => ?_) (fun h25 => ?_)
          ·
            replace hS := it_t h25 hS
            refine VL.gn rfl rfl rfl (by decide) ?_
            refine VL.gn rfl rfl rfl (by decide) ?_
            refine VL.q (q_pick_t rfl rfl) (by decide) ?_
            refine VL.q (q_assign rfl) (by decide) ?_
            refine VL.to (fun _ _ h => h) ?_
            refine VC.keep [2] rfl ?_
            cases hS
            exact VC.ret (fin1 (.inr rfl) rfl rfl () rfl trivial (fun _ _ => trivial) (fun _ _ => trivial))
          ·
            replace hS := it_f h25 hS
            refine VL.gy rfl rfl (q_move rfl) (by decide) ?_
            refine VL.gy rfl rfl (q_eql rfl rfl) (by decide) ?_
            refine VL.q (q_pick_f rfl rfl) (by decide) ?_
            refine VL.q (q_assign rfl) (by decide) ?_
            refine VL.to (fun _ _ h => h) ?_
            refine VC.keep [2] rfl ?_
            cases hS
            exact VC.ret (fin1 (.inr rfl) rfl rfl () rfl trivial (fun _ _ => trivial) (fun _ _ => trivial))
    ·
      replace hS := it_f h12 hS
      refine VL.gn rfl rfl rfl (by decide) ?_
      refine VL.gn rfl rfl rfl (by decide) ?_
      refine VL.gy rfl rfl (q_pick_f rfl rfl) (by decide) ?_
      refine VL.q (q_pick_f rfl rfl) (by decide) ?_
      refine VL.q (q_move rfl) (by decide) ?_
      refine VL.gy rfl rfl (q_move rfl) (by decide) ?_
      refine VL.gy rfl rfl (q_eql rfl rfl) (by decide) ?_
      refine VL.q (q_pick_f rfl rfl) (by decide) ?_
      refine VL.q (q_move rfl) (by decide) ?_
      refine VL.split_dec 21 rfl (fun h21 => ?_) (fun h21 => ?_)
      ·
        replace hS := it_t h21 hS
        refine VL.gn rfl rfl rfl (by decide) ?_
        refine VL.gn rfl rfl rfl (by decide) ?_
        refine VL.q (q_pick_t rfl rfl) (by decide) ?_
        refine VL.q (q_move rfl) (by decide) ?_
        refine VL.gn rfl rfl rfl (by decide) ?_
        refine VL.gn rfl rfl rfl (by decide) ?_
        refine VL.q (q_pick_t rfl rfl) (by decide) ?_
        refine VL.q (q_assign rfl) (by decide) ?_
        refine VL.to (fun _ _ h => h) ?_
        refine VC.keep [2] rfl ?_
        cases hS
        exact VC.ret (fin1 (.inr rfl) rfl rfl () rfl trivial (fun _ _ => trivial) (fun _ _ => trivial))
      ·
        replace hS := it_f h21 hS
        refine VL.gy rfl rfl (q_move rfl) (by decide) ?_
        refine VL.gy rfl rfl (q_eql rfl rfl) (by decide) ?_
        refine VL.q (q_pick_f rfl rfl) (by decide) ?_
        refine VL.q (q_move rfl) (by decide) ?_
        refine VL.split_dec 25 rfl (fun h25 => ?_) (fun h25 => ?_)
        ·
          replace hS := it_t h25 hS
          refine VL.gn rfl rfl rfl (by decide) ?_
          refine VL.gn rfl rfl rfl (by decide) ?_
          refine VL.q (q_pick_t rfl rfl) (by decide) ?_
          refine VL.q (q_assign rfl) (by decide) ?_
          refine VL.to (fun _ _ h => h) ?_
          refine VC.keep [2] rfl ?_
          cases hS
          exact VC.ret (fin1 (.inr rfl) rfl rfl () rfl trivial (fun _ _ => trivial) (fun _ _ => trivial))
        ·
          replace hS := it_f h25 hS
          refine VL.gy rfl rfl (q_move rfl) (by decide) ?_
          refine VL.gy rfl rfl (q_eql rfl rfl) (by decide) ?_
          refine VL.q (q_pick_f rfl rfl) (by decide) ?_
          refine VL.q (q_assign rfl) (by decide) ?_
          refine VL.to (fun _ _ h => h) ?_
          refine VC.keep [2] rfl ?_
          cases hS
          exact VC.ret (fin1 (.inr rfl) rfl rfl () rfl trivial (fun _ _ => trivial) (fun _ _ => trivial))

set_option maxHeartbeats 4000000 in
set_option maxRecDepth 100000 in
theorem rectoref1_Check_ct (p_0 : Str) {r : Int} (hS : Sh.rectoref1_Check p_0 = some r) :
    Ct Tryd.prog 58 [str p_0] Mo.tt (Ow.emp) (X := Unit) (fun _ => i64 r) (fun _ => True) (fun _ => Mo.tt) (fun _ => Ow.emp) := by
  refine Ct.of Tryd.func58 rfl (by kernel_rfl) Tryd.ntmps58 (by simp) fun c => ?_
  unfold Sh.rectoref1_Check at hS
  refine VC.seq ?_
  refine VC.region ?_
  refine VL.q (q_assign rfl) (by decide) ?_
  refine VL.to (fun _ _ h => h) ?_
  refine VC.seq ?_
  refine VC.seq ?_
  refine VC.region ?_
  refine VL.q (q_move rfl) (by decide) ?_
  refine VL.q (q_slen Tryd.underlying9 rfl) (by decide) ?_
  refine VL.q (q_gtr rfl rfl) (by decide) ?_
  refine VL.to (fun _ _ h => h) ?_
  refine VC.cond_dec rfl (fun h8 => ?_) (fun h8 => ?_)
  ·
    replace hS := it_t h8 hS
    refine VC.seq ?_
    refine VC.region ?_
    refine VL.q (q_assign rfl) (by decide) ?_
    refine VL.to (fun _ _ h => h) ?_
    cases hS
    exact VC.ret (fin1 (.inr rfl) rfl rfl () rfl trivial (fun _ _ => trivial) (fun _ _ => trivial))
  ·
    replace hS := it_f h8 hS
    refine VC.skip_to (fun _ _ h => h) ?_
    refine VC.seq ?_
    refine VC.region ?_
    refine VL.q (q_move rfl) (by decide) ?_
    obtain ⟨y10_1, ey10_1, hS⟩ := bd_s hS
    refine VL.callO (rectoref1_Parts_ct p_0 ey10_1) rfl (by decide) ?_
    rintro q10_1_0 rfl
    try dsimp only
    refine VL.q (q_assign rfl) (by decide) ?_
    refine VL.to (fun _ _ h => h) ?_
    refine VC.seq ?_
    refine VC.seq ?_
    refine VC.region ?_
    refine VL.q (q_move rfl) (by decide) ?_
    refine VL.q (q_ln (s := q10_1_0) Tryd.underlying38 rfl) (by decide) ?_
    refine VL.q (q_eql rfl rfl) (by decide) ?_
    refine VL.to (fun _ _ h => h) ?_
    refine VC.keep [3, 13] rfl ?_
    refine VC.cond_dec rfl (fun h13 => ?_) (fun h13 => ?_)
    ·
      replace hS := it_t h13 hS
      refine VC.seq ?_
      refine VC.region ?_
      refine VL.q (q_assign rfl) (by decide) ?_
      refine VL.to (fun _ _ h => h) ?_
      cases hS
      exact VC.ret (fin1 (.inr rfl) rfl rfl () rfl trivial (fun _ _ => trivial) (fun _ _ => trivial))
    ·
      replace hS := it_f h13 hS
      refine VC.skip_to (fun _ _ h => h) ?_
      refine VC.seq ?_
      refine VC.seq ?_
      refine VC.region ?_
      refine VL.q (q_assign rfl) (by decide) ?_
      refine VL.to (fun _ _ h => h) ?_
      refine VC.block ?_
      refine VC.iter (S := Int) (fun (i4_2 : Int) => i4_2) (fun (i4_2 : Int) => [(3, q10_1_0.val), (4, i64 i4_2)]) (fun (i4_2 : Int) => Mo.tt) (fun (i4_2 : Int) => Ow.star (Sv.own q10_1_0 9) (Ow.emp)) 0 [3, 4] hS rfl ?_
      clear hS
      rintro i4_2 m1 y1 hS hK1
      show VC _ _ _ _ _ [(3, q10_1_0.val), (4, i64 i4_2)] (Mo.and Mo.tt _) (Ow.star (Sv.own q10_1_0 9) (Ow.emp))
      refine VC.seq ?_
      refine VC.seq ?_
      refine VC.region ?_
      refine VL.q (q_move rfl) (by decide) ?_
      refine VL.q (q_move rfl) (by decide) ?_
      refine VL.q (q_ln (s := q10_1_0) Tryd.underlying38 rfl) (by decide) ?_
      refine VL.q (q_lss rfl rfl) (by decide) ?_
      refine VL.to (fun _ _ h => h) ?_
      refine VC.cond_dec rfl (fun h17 => ?_) (fun h17 => ?_)
      ·
        replace hS := it_t h17 hS
        refine VC.skip_to (fun _ _ h => h) ?_
        refine VC.cutJ (S := Unit) (fun (_ : Unit) => ()) (fun (_ : Unit) => [(3, q10_1_0.val), (4, i64 i4_2)]) (fun (_ : Unit) => Mo.tt) (fun (_ : Unit) => Ow.star (Sv.own q10_1_0 9) (Ow.emp)) hS ?_ ?_
        · -- up to where ways meet
          clear hS
          intro k3 hS
          refine VC.block ?_
          refine VC.seq ?_
          refine VC.cutJ (S := Bool) (fun (x38_4 : Bool) => x38_4) (fun (x38_4 : Bool) => [(3, q10_1_0.val), (4, i64 i4_2), (38, .bool x38_4)]) (fun (x38_4 : Bool) => Mo.tt) (fun (x38_4 : Bool) => Ow.star (Sv.own q10_1_0 9) (Ow.emp)) hS ?_ ?_
          · -- up to where ways meet
            clear hS
            intro k5 hS
            refine VC.region ?_
            refine VL.q (q_move rfl) (by decide) ?_
            refine VL.q (q_move rfl) (by decide) ?_
            obtain ⟨z22_6, nz22_6, hz22_6, hS⟩ := at_s hS
            refine VL.q (q_ixo (s := q10_1_0) Tryd.underlying38 gsz9 rfl rfl nz22_6 (lt_of_get nz22_6 hz22_6)) (by decide) ?_
            refine VL.q (q_elo (s := q10_1_0) 9 gone9 rfl hz22_6 rfl) (by decide) ?_
            refine VL.q (q_seq rfl rfl) (by decide) ?_
            refine VL.q (q_move rfl) (by decide) ?_
            refine VL.split_dec 25 rfl (fun h25 => ?_) (fun h25 => ?_)
            ·
              replace hS := it_t h25 hS
              refine VL.gn rfl rfl rfl (by decide) ?_
              refine VL.gn rfl rfl rfl (by decide) ?_
              refine VL.gn rfl rfl rfl (by decide) ?_
              refine VL.gn rfl rfl rfl (by decide) ?_
              refine VL.gn rfl rfl rfl (by decide) ?_
              refine VL.q (q_pick_t rfl rfl) (by decide) ?_
              refine VL.q (q_move rfl) (by decide) ?_
              refine VL.gn rfl rfl rfl (by decide) ?_
              refine VL.gn rfl rfl rfl (by decide) ?_
              refine VL.gn rfl rfl rfl (by decide) ?_
              refine VL.gn rfl rfl rfl (by decide) ?_
              refine VL.gn rfl rfl rfl (by decide) ?_
              refine VL.q (q_pick_t rfl rfl) (by decide) ?_
              refine VL.mt true [3, 4, 38] (fun _ _ h => h) hS rfl
            ·
              replace hS := it_f h25 hS
              refine VL.gy rfl rfl (q_move rfl) (by decide) ?_
              refine VL.gy rfl rfl (q_move rfl) (by decide) ?_
              obtain ⟨z28_7, nz28_7, hz28_7, hS⟩ := at_s hS
              refine VL.gy rfl rfl (q_ixo (s := q10_1_0) Tryd.underlying38 gsz9 rfl rfl nz28_7 (lt_of_get nz28_7 hz28_7)) (by decide) ?_
              refine VL.gy rfl rfl (q_elo (s := q10_1_0) 9 gone9 rfl hz28_7 rfl) (by decide) ?_
              refine VL.gy rfl rfl (q_seq rfl rfl) (by decide) ?_
              refine VL.q (q_pick_f rfl rfl) (by decide) ?_
              refine VL.q (q_move rfl) (by decide) ?_
              refine VL.split_dec 32 rfl (fun h32 => ?_) (fun h32 => ?_)
              ·
                replace hS := it_t h32 hS
                refine VL.gn rfl rfl rfl (by decide) ?_
                refine VL.gn rfl rfl rfl (by decide) ?_
                refine VL.gn rfl rfl rfl (by decide) ?_
                refine VL.gn rfl rfl rfl (by decide) ?_
                refine VL.gn rfl rfl rfl (by decide) ?_
                refine VL.q (q_pick_t rfl rfl) (by decide) ?_
                refine VL.mt true [3, 4, 38] (fun _ _ h => h) hS rfl
              ·
                replace hS := it_f h32 hS
                refine VL.gy rfl rfl (q_move rfl) (by decide) ?_
                refine VL.gy rfl rfl (q_move rfl) (by decide) ?_
                obtain ⟨z35_8, nz35_8, hz35_8, hS⟩ := at_s hS
                refine VL.gy rfl rfl (q_ixo (s := q10_1_0) Tryd.underlying38 gsz9 rfl rfl nz35_8 (lt_of_get nz35_8 hz35_8)) (by decide) ?_
                refine VL.gy rfl rfl (q_elo (s := q10_1_0) 9 gone9 rfl hz35_8 rfl) (by decide) ?_
                refine VL.gy rfl rfl (q_seq rfl rfl) (by decide) ?_
                refine VL.q (q_pick_f rfl rfl) (by decide) ?_
                refine VL.mt (decide (z35_8 = [46, 46])) [3, 4, 38] (fun _ _ h => h) hS rfl
          · -- from there
            clear hS
            rintro x38_4 hS
            show VC _ _ _ _ _ [(3, q10_1_0.val), (4, i64 i4_2), (38, .bool x38_4)] (Mo.and Mo.tt _) (Ow.star (Sv.own q10_1_0 9) (Ow.emp))
            refine VC.cond rfl (fun h38 => ?_) (fun h38 => ?_)
            ·
              replace hS := it_t h38 hS
              refine VC.seq ?_
              refine VC.region ?_
              refine VL.q (q_assign rfl) (by decide) ?_
              refine VL.to (fun _ _ h => h) ?_
              replace hS := up2 hS hK1
              cases hS
              exact VC.ret (fin1 (.inr rfl) rfl rfl () rfl trivial (fun _ _ => trivial) (fun _ _ => trivial))
            ·
              replace hS := it_b h38 hS
              refine VC.skip_to (fun _ _ h => h) ?_
              refine VC.seq ?_
              refine VC.region ?_
              refine VL.q (q_assign rfl) (by decide) ?_
              refine VL.to (fun _ _ h => h) ?_
              refine VC.block ?_
              refine VC.iter (S := Int) (fun (k5_9 : Int) => k5_9) (fun (k5_9 : Int) => [(3, q10_1_0.val), (4, i64 i4_2), (5, i64 k5_9)]) (fun (k5_9 : Int) => Mo.tt) (fun (k5_9 : Int) => Ow.star (Sv.own q10_1_0 9) (Ow.emp)) 0 [3, 4, 5] hS rfl ?_
              clear hS
              rintro k5_9 m2 y2 hS hK2
              show VC _ _ _ _ _ [(3, q10_1_0.val), (4, i64 i4_2), (5, i64 k5_9)] (Mo.and Mo.tt _) (Ow.star (Sv.own q10_1_0 9) (Ow.emp))
              refine VC.seq ?_
              refine VC.seq ?_
              refine VC.region ?_
              refine VL.q (q_move rfl) (by decide) ?_
              refine VL.q (q_move rfl) (by decide) ?_
              refine VL.q (q_move rfl) (by decide) ?_
              obtain ⟨z42_10, nz42_10, hz42_10, hS⟩ := at_s hS
              refine VL.q (q_ixo (s := q10_1_0) Tryd.underlying38 gsz9 rfl rfl nz42_10 (lt_of_get nz42_10 hz42_10)) (by decide) ?_
              refine VL.q (q_elo (s := q10_1_0) 9 gone9 rfl hz42_10 rfl) (by decide) ?_
              refine VL.q (q_slen Tryd.underlying9 rfl) (by decide) ?_
              refine VL.q (q_lss rfl rfl) (by decide) ?_
              refine VL.to (fun _ _ h => h) ?_
              refine VC.cond_dec rfl (fun h45 => ?_) (fun h45 => ?_)
              ·
                replace hS := it_t h45 hS
                refine VC.skip_to (fun _ _ h => h) ?_
                refine VC.seq ?_
                refine VC.block ?_
                refine VC.seq ?_
                refine VC.region ?_
                refine VL.q (q_move rfl) (by decide) ?_
                refine VL.q (q_move rfl) (by decide) ?_
                obtain ⟨z50_11, nz50_11, hz50_11, hS⟩ := at_s hS
                refine VL.q (q_ixo (s := q10_1_0) Tryd.underlying38 gsz9 rfl rfl nz50_11 (lt_of_get nz50_11 hz50_11)) (by decide) ?_
                refine VL.q (q_elo (s := q10_1_0) 9 gone9 rfl hz50_11 rfl) (by decide) ?_
                refine VL.q (q_move rfl) (by decide) ?_
                obtain ⟨z53_12, nz53_12, hz53_12, hS⟩ := at_s hS
                refine VL.q (q_sidx Tryd.underlying9 rfl rfl nz53_12 hz53_12) (by decide) ?_
                obtain ⟨y54_13, ey54_13, hS⟩ := bd_s hS
                refine VL.q (q_call (rectoref1_good_ct (z53_12.toNat : Int) ey54_13) rfl (fun _ _ => rfl)) (by decide) ?_
                refine VL.q (q_not rfl) (by decide) ?_
                refine VL.to (fun _ _ h => h) ?_
                refine VC.keep [3, 4, 5, 55] rfl ?_
                refine VC.cond rfl (fun h55 => ?_) (fun h55 => ?_)
                ·
                  replace hS := it_t h55 hS
                  refine VC.seq ?_
                  refine VC.region ?_
                  refine VL.q (q_assign rfl) (by decide) ?_
                  refine VL.to (fun _ _ h => h) ?_
                  replace hS := up2 hS hK2
                  replace hS := up2 hS hK1
                  cases hS
                  exact VC.ret (fin1 (.inr rfl) rfl rfl () rfl trivial (fun _ _ => trivial) (fun _ _ => trivial))
                ·
                  replace hS := it_b h55 hS
                  refine VC.skip_to (fun _ _ h => h) ?_
                  refine VC.region ?_
                  refine VL.q (q_move rfl) (by decide) ?_
                  obtain ⟨b47, hS⟩ := gd_s hS
                  refine VL.q (q_add rfl rfl b47) (by decide) ?_
                  refine VL.q (q_assign rfl) (by decide) ?_
                  refine VL.rnd (k5_9 + 1) [3, 4, 5] (fun _ _ h => h) (go2 hS hK2) rfl
              ·
                replace hS := it_f h45 hS
                replace hS := up2 hS hK2
                refine VC.exit_mt () [3, 4] (fun _ _ h => h) hS rfl
        · -- from there
          clear hS
          rintro _ hS
          show VC _ _ _ _ _ [(3, q10_1_0.val), (4, i64 i4_2)] (Mo.and Mo.tt _) (Ow.star (Sv.own q10_1_0 9) (Ow.emp))
          refine VC.region ?_
          refine VL.q (q_move rfl) (by decide) ?_
          obtain ⟨b19, hS⟩ := gd_s hS
          refine VL.q (q_add rfl rfl b19) (by decide) ?_
          refine VL.q (q_assign rfl) (by decide) ?_
          refine VL.rnd (i4_2 + 1) [3, 4] (fun _ _ h => h) (go2 hS hK1) rfl
      ·
        replace hS := it_f h17 hS
        replace hS := up2 hS hK1
        refine VC.exit_to (fun _ _ h => h) ?_
        refine VC.seq ?_
        refine VC.region ?_
        refine VL.q (q_assign rfl) (by decide) ?_
        refine VL.to (fun _ _ h => h) ?_
        cases hS
        exact VC.ret (fin1 (.inr rfl) rfl rfl () rfl trivial (fun _ _ => trivial) (fun _ _ => trivial))

set_option maxHeartbeats 4000000 in
set_option maxRecDepth 100000 in
theorem rectoref14_Mode_ct (m_0 : Int) {r : Bool} (hS : Sh.rectoref14_Mode m_0 = some r) :
    Ct Tryd.prog 59 [i64 m_0] Mo.tt (Ow.emp) (X := Unit) (fun _ => .bool r) (fun _ => True) (fun _ => Mo.tt) (fun _ => Ow.emp) := by
  refine Ct.of Tryd.func59 rfl (by kernel_rfl) Tryd.ntmps59 (by simp) fun c => ?_
  unfold Sh.rectoref14_Mode at hS
  refine VC.seq ?_
  refine VC.region ?_
  refine VL.q (q_assign rfl) (by decide) ?_
  refine VL.to (fun _ _ h => h) ?_
  refine VC.seq ?_
  refine VC.region ?_
  refine VL.q (q_move rfl) (by decide) ?_
  refine VL.q (q_eql rfl rfl) (by decide) ?_
  refine VL.q (q_move rfl) (by decide) ?_
  refine VL.split_dec 5 rfl (fun h5 => ?_) (fun h5 => ?_)
  ·
    replace hS := it_t h5 hS
    refine VL.gn rfl rfl rfl (by decide) ?_
    refine VL.gn rfl rfl rfl (by decide) ?_
    refine VL.q (q_pick_t rfl rfl) (by decide) ?_
    refine VL.q (q_assign rfl) (by decide) ?_
    refine VL.to (fun _ _ h => h) ?_
    cases hS
    exact VC.ret (fin1 (.inr rfl) rfl rfl () rfl trivial (fun _ _ => trivial) (fun _ _ => trivial))
  ·
    replace hS := it_f h5 hS
    refine VL.gy rfl rfl (q_move rfl) (by decide) ?_
    refine VL.gy rfl rfl (q_eql rfl rfl) (by decide) ?_
    refine VL.q (q_pick_f rfl rfl) (by decide) ?_
    refine VL.q (q_assign rfl) (by decide) ?_
    refine VL.to (fun _ _ h => h) ?_
    cases hS
    exact VC.ret (fin1 (.inr rfl) rfl rfl () rfl trivial (fun _ _ => trivial) (fun _ _ => trivial))

set_option maxHeartbeats 4000000 in
set_option maxRecDepth 100000 in
theorem rectoref14_Cause_ct (f_0 : Rectoref14File) {r : Int} (hS : Sh.rectoref14_Cause f_0 = some r) :
    Ct Tryd.prog 24 [.agg #[str f_0.path, i64 f_0.mode, str f_0.data]] Mo.tt (Ow.emp) (X := Unit) (fun _ => i64 r) (fun _ => True) (fun _ => Mo.tt) (fun _ => Ow.emp) := by
  refine Ct.of Tryd.func24 rfl (by kernel_rfl) Tryd.ntmps24 (by simp) fun c => ?_
  unfold Sh.rectoref14_Cause at hS
  refine VC.seq ?_
  refine VC.region ?_
  refine VL.box (cs := [str f_0.path, i64 f_0.mode, str f_0.data]) rfl rfl (by decide) fun b1_1 => ?_
  refine VL.q (q_assign rfl) (by decide) ?_
  refine VL.to (fun _ _ h => h) ?_
  refine VC.seq ?_
  refine VC.region ?_
  refine VL.q (q_field gfa54_0 rfl) (by decide) ?_
  refine VL.q (q_fe gone9 rfl rfl) (by decide) ?_
  obtain ⟨y6_2, ey6_2, hS⟩ := bd_s hS
  refine VL.q (q_call (rectoref1_Check_ct f_0.path ey6_2) rfl (fun _ _ => rfl)) (by decide) ?_
  refine VL.q (q_assign rfl) (by decide) ?_
  refine VL.to (fun _ _ h => h) ?_
  refine VC.seq ?_
  refine VC.block ?_
  refine VC.seq ?_
  refine VC.region ?_
  refine VL.q (q_move rfl) (by decide) ?_
  refine VL.q (q_neq rfl rfl) (by decide) ?_
  refine VL.q (q_assign rfl) (by decide) ?_
  refine VL.to (fun _ _ h => h) ?_
  refine VC.cond_ndec rfl (fun h7 => ?_) (fun h7 => ?_)
  ·
    replace hS := it_f h7 hS
    refine VC.seq ?_
    refine VC.region ?_
    refine VL.q (q_move rfl) (by decide) ?_
    refine VL.q (q_assign rfl) (by decide) ?_
    refine VL.to (fun _ _ h => h) ?_
    refine VC.keep [2] rfl ?_
    cases hS
    exact VC.ret (fin1 (.inr rfl) rfl rfl () rfl trivial (fun _ _ => trivial) (fun _ _ => trivial))
  ·
    replace hS := it_t h7 hS
    refine VC.seq ?_
    refine VC.region ?_
    refine VL.q (q_field gfa54_1 rfl) (by decide) ?_
    refine VL.q (q_fe gone3 rfl rfl) (by decide) ?_
    obtain ⟨y14_3, ey14_3, hS⟩ := bd_s hS
    refine VL.q (q_call (rectoref14_Mode_ct f_0.mode ey14_3) rfl (fun _ _ => rfl)) (by decide) ?_
    refine VL.q (q_not rfl) (by decide) ?_
    refine VL.q (q_assign rfl) (by decide) ?_
    refine VL.to (fun _ _ h => h) ?_
    refine VC.keep [1, 11] rfl ?_
    refine VC.cond rfl (fun h11 => ?_) (fun h11 => ?_)
    ·
      replace hS := it_t h11 hS
      refine VC.seq ?_
      refine VC.region ?_
      refine VL.q (q_assign rfl) (by decide) ?_
      refine VL.to (fun _ _ h => h) ?_
      cases hS
      exact VC.ret (fin1 (.inr rfl) rfl rfl () rfl trivial (fun _ _ => trivial) (fun _ _ => trivial))
    ·
      replace hS := it_b h11 hS
      refine VC.seq ?_
      refine VC.region ?_
      refine VL.q (q_field gfa54_2 rfl) (by decide) ?_
      refine VL.q (q_fe gone9 rfl rfl) (by decide) ?_
      refine VL.q (q_slen Tryd.underlying9 rfl) (by decide) ?_
      refine VL.q (q_gtr rfl rfl) (by decide) ?_
      refine VL.q (q_assign rfl) (by decide) ?_
      refine VL.to (fun _ _ h => h) ?_
      refine VC.cond_dec rfl (fun h16 => ?_) (fun h16 => ?_)
      ·
        replace hS := it_t h16 hS
        refine VC.seq ?_
        refine VC.region ?_
        refine VL.q (q_assign rfl) (by decide) ?_
        refine VL.to (fun _ _ h => h) ?_
        cases hS
        exact VC.ret (fin1 (.inr rfl) rfl rfl () rfl trivial (fun _ _ => trivial) (fun _ _ => trivial))
      ·
        replace hS := it_f h16 hS
        refine VC.skip_to (fun _ _ h => h) ?_
        refine VC.seq ?_
        refine VC.region ?_
        refine VL.q (q_assign rfl) (by decide) ?_
        refine VL.to (fun _ _ h => h) ?_
        cases hS
        exact VC.ret (fin1 (.inr rfl) rfl rfl () rfl trivial (fun _ _ => trivial) (fun _ _ => trivial))

set_option maxHeartbeats 4000000 in
set_option maxRecDepth 100000 in
theorem rectoref1_Under_ct (p_0 : Str) (dir_1 : Str) {r : Bool} (hS : Sh.rectoref1_Under p_0 dir_1 = some r) :
    Ct Tryd.prog 67 [str p_0, str dir_1] Mo.tt (Ow.emp) (X := Unit) (fun _ => .bool r) (fun _ => True) (fun _ => Mo.tt) (fun _ => Ow.emp) := by
  refine Ct.of Tryd.func67 rfl (by kernel_rfl) Tryd.ntmps67 (by simp) fun c => ?_
  unfold Sh.rectoref1_Under at hS
  refine VC.seq ?_
  refine VC.region ?_
  refine VL.q (q_assign rfl) (by decide) ?_
  refine VL.to (fun _ _ h => h) ?_
  refine VC.seq ?_
  refine VC.seq ?_
  refine VC.region ?_
  refine VL.q (q_move rfl) (by decide) ?_
  refine VL.q (q_seq rfl rfl) (by decide) ?_
  refine VL.to (fun _ _ h => h) ?_
  refine VC.cond_dec rfl (fun h6 => ?_) (fun h6 => ?_)
  ·
    replace hS := it_t h6 hS
    refine VC.seq ?_
    refine VC.region ?_
    refine VL.q (q_move rfl) (by decide) ?_
    refine VL.q (q_sne rfl rfl) (by decide) ?_
    refine VL.q (q_assign rfl) (by decide) ?_
    refine VL.to (fun _ _ h => h) ?_
    cases hS
    exact VC.ret (fin1 (.inr rfl) rfl rfl () rfl trivial (fun _ _ => trivial) (fun _ _ => trivial))
  ·
    replace hS := it_f h6 hS
    refine VC.skip_to (fun _ _ h => h) ?_
    refine VC.seq ?_
    refine VC.region ?_
    refine VL.q (q_move rfl) (by decide) ?_
    refine VL.q (q_slen Tryd.underlying9 rfl) (by decide) ?_
    refine VL.q (q_move rfl) (by decide) ?_
    refine VL.q (q_slen Tryd.underlying9 rfl) (by decide) ?_
    obtain ⟨b13, hS⟩ := gd_s hS
    refine VL.q (q_add rfl rfl b13) (by decide) ?_
    refine VL.q (q_gtr rfl rfl) (by decide) ?_
    refine VL.q (q_move rfl) (by decide) ?_
    refine VL.split_dec 15 rfl (fun h15 => ?_) (fun h15 => ?_)
    ·
      replace hS := it_t h15 hS
      refine VL.gy rfl rfl (q_move rfl) (by decide) ?_
      refine VL.gy rfl rfl (q_move rfl) (by decide) ?_
      refine VL.gy rfl rfl (q_slen Tryd.underlying9 rfl) (by decide) ?_
      obtain ⟨b19, hS⟩ := gd_s hS
      obtain ⟨y19_1, ey19_1, hS⟩ := lt_s hS
      refine VL.gy rfl rfl (q_stoE Tryd.underlying9 rfl rfl b19.1 b19.2 ey19_1) (by decide) ?_
      refine VL.gy rfl rfl (q_move rfl) (by decide) ?_
      refine VL.gy rfl rfl (q_seq rfl rfl) (by decide) ?_
      refine VL.q (q_pick_t rfl rfl) (by decide) ?_
      refine VL.q (q_move rfl) (by decide) ?_
      refine VL.split_dec 23 rfl (fun h23 => ?_) (fun h23 => ?_)
      ·
        replace hS := it_t h23 hS
        refine VL.gy rfl rfl (q_move rfl) (by decide) ?_
        refine VL.gy rfl rfl (q_move rfl) (by decide) ?_
        refine VL.gy rfl rfl (q_slen Tryd.underlying9 rfl) (by decide) ?_
        obtain ⟨z27_2, nz27_2, hz27_2, hS⟩ := at_s hS
        refine VL.gy rfl rfl (q_sidx Tryd.underlying9 rfl rfl nz27_2 hz27_2) (by decide) ?_
        refine VL.gy rfl rfl (q_eql rfl rfl) (by decide) ?_
        refine VL.q (q_pick_t rfl rfl) (by decide) ?_
        refine VL.q (q_assign rfl) (by decide) ?_
        refine VL.to (fun _ _ h => h) ?_
        refine VC.keep [4] rfl ?_
        cases hS
        exact VC.ret (fin1 (.inr rfl) rfl rfl () rfl trivial (fun _ _ => trivial) (fun _ _ => trivial))
      ·
        replace hS := it_f h23 hS
        refine VL.gn rfl rfl rfl (by decide) ?_
        refine VL.gn rfl rfl rfl (by decide) ?_
        refine VL.gn rfl rfl rfl (by decide) ?_
        refine VL.gn rfl rfl rfl (by decide) ?_
        refine VL.gn rfl rfl rfl (by decide) ?_
        refine VL.q (q_pick_f rfl rfl) (by decide) ?_
        refine VL.q (q_assign rfl) (by decide) ?_
        refine VL.to (fun _ _ h => h) ?_
        refine VC.keep [4] rfl ?_
        cases hS
        exact VC.ret (fin1 (.inr rfl) rfl rfl () rfl trivial (fun _ _ => trivial) (fun _ _ => trivial))
    ·
      replace hS := it_f h15 hS
      refine VL.gn rfl rfl rfl (by decide) ?_
      refine VL.gn rfl rfl rfl (by decide) ?_
      refine VL.gn rfl rfl rfl (by decide) ?_
      refine VL.gn rfl rfl rfl (by decide) ?_
      refine VL.gn rfl rfl rfl (by decide) ?_
      refine VL.gn rfl rfl rfl (by decide) ?_
      refine VL.q (q_pick_f rfl rfl) (by decide) ?_
      refine VL.q (q_move rfl) (by decide) ?_
      refine VL.gn rfl rfl rfl (by decide) ?_
      refine VL.gn rfl rfl rfl (by decide) ?_
      refine VL.gn rfl rfl rfl (by decide) ?_
      refine VL.gn rfl rfl rfl (by decide) ?_
      refine VL.gn rfl rfl rfl (by decide) ?_
      refine VL.q (q_pick_f rfl rfl) (by decide) ?_
      refine VL.q (q_assign rfl) (by decide) ?_
      refine VL.to (fun _ _ h => h) ?_
      refine VC.keep [4] rfl ?_
      cases hS
      exact VC.ret (fin1 (.inr rfl) rfl rfl () rfl trivial (fun _ _ => trivial) (fun _ _ => trivial))

set_option maxHeartbeats 4000000 in
set_option maxRecDepth 100000 in
theorem rectoref1_Clash_ct (a_0 : Str) (b_1 : Str) {r : Bool} (hS : Sh.rectoref1_Clash a_0 b_1 = some r) :
    Ct Tryd.prog 28 [str a_0, str b_1] Mo.tt (Ow.emp) (X := Unit) (fun _ => .bool r) (fun _ => True) (fun _ => Mo.tt) (fun _ => Ow.emp) := by
  refine Ct.of Tryd.func28 rfl (by kernel_rfl) Tryd.ntmps28 (by simp) fun c => ?_
  unfold Sh.rectoref1_Clash at hS
  refine VC.seq ?_
  refine VC.region ?_
  refine VL.q (q_assign rfl) (by decide) ?_
  refine VL.to (fun _ _ h => h) ?_
  refine VC.seq ?_
  refine VC.region ?_
  refine VL.q (q_move rfl) (by decide) ?_
  refine VL.q (q_sne rfl rfl) (by decide) ?_
  refine VL.q (q_move rfl) (by decide) ?_
  refine VL.split_ndec 7 rfl (fun h7 => ?_) (fun h7 => ?_)
  ·
    replace hS := it_f h7 hS
    refine VL.gy rfl rfl (q_move rfl) (by decide) ?_
    refine VL.gy rfl rfl (q_sne rfl rfl) (by decide) ?_
    refine VL.q (q_pick_t rfl rfl) (by decide) ?_
    refine VL.q (q_move rfl) (by decide) ?_
    refine VL.split_ndec 11 rfl (fun h11 => ?_) (fun h11 => ?_)
    ·
      replace hS := it_f h11 hS
      refine VL.gy rfl rfl (q_move rfl) (by decide) ?_
      refine VL.gy rfl rfl (q_move rfl) (by decide) ?_
      obtain ⟨y14_1, ey14_1, hS⟩ := bd_s hS
      refine VL.gy rfl rfl (q_call (rectoref1_Under_ct a_0 b_1 ey14_1) rfl (fun _ _ => rfl)) (by decide) ?_
      refine VL.gy rfl rfl (q_move rfl) (by decide) ?_
      refine VL.split 15 rfl (fun h15 => ?_) (fun h15 => ?_)
      ·
        replace hS := it_t h15 hS
        refine VL.gn rfl rfl rfl (by decide) ?_
        refine VL.gn rfl rfl rfl (by decide) ?_
        refine VL.gn rfl rfl rfl (by decide) ?_
        refine VL.gy rfl rfl (q_pick_t rfl rfl) (by decide) ?_
        refine VL.q (q_pick_t rfl rfl) (by decide) ?_
        refine VL.q (q_assign rfl) (by decide) ?_
        refine VL.to (fun _ _ h => h) ?_
        refine VC.keep [4] rfl ?_
        cases hS
        exact VC.ret (fin1 (.inr rfl) rfl rfl () rfl trivial (fun _ _ => trivial) (fun _ _ => trivial))
      ·
        replace hS := it_b h15 hS
        refine VL.gy rfl rfl (q_move rfl) (by decide) ?_
        refine VL.gy rfl rfl (q_move rfl) (by decide) ?_
        obtain ⟨y18_2, ey18_2, hS⟩ := bd_s hS
        refine VL.gy rfl rfl (q_call (rectoref1_Under_ct b_1 a_0 ey18_2) rfl (fun _ _ => rfl)) (by decide) ?_
        refine VL.gy rfl rfl (q_pick_f rfl rfl) (by decide) ?_
        refine VL.q (q_pick_t rfl rfl) (by decide) ?_
        refine VL.q (q_assign rfl) (by decide) ?_
        refine VL.to (fun _ _ h => h) ?_
        refine VC.keep [4] rfl ?_
        cases hS
        exact VC.ret (fin1 (.inr rfl) rfl rfl () rfl trivial (fun _ _ => trivial) (fun _ _ => trivial))
    ·
      replace hS := it_t h11 hS
      refine VL.gn rfl rfl rfl (by decide) ?_
      refine VL.gn rfl rfl rfl (by decide) ?_
      refine VL.gn rfl rfl rfl (by decide) ?_
      refine VL.gn rfl rfl rfl (by decide) ?_
      refine VL.gu rfl rfl (by decide) ?_
      refine VL.gu rfl rfl (by decide) ?_
      refine VL.gu rfl rfl (by decide) ?_
      refine VL.gn rfl rfl rfl (by decide) ?_
      refine VL.q (q_pick_f rfl rfl) (by decide) ?_
      refine VL.q (q_assign rfl) (by decide) ?_
      refine VL.to (fun _ _ h => h) ?_
      refine VC.keep [4] rfl ?_
      cases hS
      exact VC.ret (fin1 (.inr rfl) rfl rfl () rfl trivial (fun _ _ => trivial) (fun _ _ => trivial))
  ·
    replace hS := it_t h7 hS
    refine VL.gn rfl rfl rfl (by decide) ?_
    refine VL.gn rfl rfl rfl (by decide) ?_
    refine VL.q (q_pick_f rfl rfl) (by decide) ?_
    refine VL.q (q_move rfl) (by decide) ?_
    refine VL.gn rfl rfl rfl (by decide) ?_
    refine VL.gn rfl rfl rfl (by decide) ?_
    refine VL.gn rfl rfl rfl (by decide) ?_
    refine VL.gn rfl rfl rfl (by decide) ?_
    refine VL.gu rfl rfl (by decide) ?_
    refine VL.gu rfl rfl (by decide) ?_
    refine VL.gu rfl rfl (by decide) ?_
    refine VL.gn rfl rfl rfl (by decide) ?_
    refine VL.q (q_pick_f rfl rfl) (by decide) ?_
    refine VL.q (q_assign rfl) (by decide) ?_
    refine VL.to (fun _ _ h => h) ?_
    refine VC.keep [4] rfl ?_
    cases hS
    exact VC.ret (fin1 (.inr rfl) rfl rfl () rfl trivial (fun _ _ => trivial) (fun _ _ => trivial))

set_option maxHeartbeats 4000000 in
set_option maxRecDepth 100000 in
theorem rectolaw14_RowPut_ct (r_0 : Sv FilesFile) (f_1 : FilesFile) {r : Bool} (hS : Sh.rectolaw14_RowPut r_0.l f_1 = some r) :
    Ct Tryd.prog 5 [r_0.val, .agg #[str f_1.path, i64 f_1.mode, str f_1.data]] r_0.ok (Ow.emp) (X := Unit) (fun _ => .bool r) (fun _ => True) (fun _ => Mo.tt) (fun _ => Ow.emp) := by
  refine Ct.of Tryd.func5 rfl (by kernel_rfl) Tryd.ntmps5 (by simp) fun c => ?_
  unfold Sh.rectolaw14_RowPut at hS
  refine VC.seq ?_
  refine VC.region ?_
  refine VL.box (cs := [str f_1.path, i64 f_1.mode, str f_1.data]) rfl rfl (by decide) fun b3_1 => ?_
  refine VL.q (q_assign rfl) (by decide) ?_
  refine VL.to (fun _ _ h => h) ?_
  refine VC.seq ?_
  refine VC.seq ?_
  refine VC.region ?_
  obtain ⟨y11_2, ey11_2, hS⟩ := bd_s hS
  refine VL.q (q_call (rectolaw14_known_ct ey11_2) rfl (fun _ _ => rfl)) (by decide) ?_
  refine VL.q (q_not rfl) (by decide) ?_
  refine VL.to (fun _ _ h => h) ?_
  refine VC.cond rfl (fun h12 => ?_) (fun h12 => ?_)
  ·
    replace hS := it_t h12 hS
    refine VC.seq ?_
    refine VC.region ?_
    refine VL.q (q_assign rfl) (by decide) ?_
    refine VL.to (fun _ _ h => h) ?_
    cases hS
    exact VC.ret (fin1 (.inr rfl) rfl rfl () rfl trivial (fun _ _ => trivial) (fun _ _ => trivial))
  ·
    replace hS := it_b h12 hS
    refine VC.skip_to (fun _ _ h => h) ?_
    refine VC.seq ?_
    refine VC.cutJ (S := Bool) (fun (x31_3 : Bool) => x31_3) (fun (x31_3 : Bool) => [(0, r_0.val), (3, ptr b3_1 0), (31, .bool x31_3)]) (fun (x31_3 : Bool) => Mo.tt) (fun (x31_3 : Bool) => Ow.star (Blk b3_1 [str f_1.path, i64 f_1.mode, str f_1.data] 51) (Ow.emp)) hS ?_ ?_
    · -- up to where ways meet
      clear hS
      intro k4 hS
      refine VC.region ?_
      refine VL.q (q_move rfl) (by decide) ?_
      obtain ⟨y14_5, ey14_5, hS⟩ := bd_s hS
      refine VL.q (q_call (rectolaw14_Few_ct r_0 ey14_5) rfl (fun _ _ => rfl)) (by decide) ?_
      refine VL.q (q_not rfl) (by decide) ?_
      refine VL.q (q_move rfl) (by decide) ?_
      refine VL.split 16 rfl (fun h16 => ?_) (fun h16 => ?_)
      ·
        replace hS := it_t h16 hS
        refine VL.gn rfl rfl rfl (by decide) ?_
        refine VL.gn rfl rfl rfl (by decide) ?_
        refine VL.gn rfl rfl rfl (by decide) ?_
        refine VL.q (q_pick_t rfl rfl) (by decide) ?_
        refine VL.q (q_move rfl) (by decide) ?_
        refine VL.gn rfl rfl rfl (by decide) ?_
        refine VL.gn rfl rfl rfl (by decide) ?_
        refine VL.gn rfl rfl rfl (by decide) ?_
        refine VL.gn rfl rfl rfl (by decide) ?_
        refine VL.gn rfl rfl rfl (by decide) ?_
        refine VL.gn rfl rfl rfl (by decide) ?_
        refine VL.gn rfl rfl rfl (by decide) ?_
        refine VL.gn rfl rfl rfl (by decide) ?_
        refine VL.gn rfl rfl rfl (by decide) ?_
        refine VL.q (q_pick_t rfl rfl) (by decide) ?_
        refine VL.mt true [0, 3, 31] (fun _ _ h => h) hS rfl
      ·
        replace hS := it_b h16 hS
        refine VL.gy rfl rfl (q_move rfl) (by decide) ?_
        refine VL.guard rfl rfl ?_
        obtain ⟨y18_6, ey18_6, hS⟩ := bd_s hS
        refine VL.callF (files_Row_Check_ct r_0 ey18_6) rfl (by decide) ?_
        rintro q18_6_0 rfl
        try dsimp only
        refine VL.gy rfl rfl (q_erne Tryd.underlying29 rfl) (by decide) ?_
        refine VL.q (q_pick_f rfl rfl) (by decide) ?_
        refine VL.q (q_move rfl) (by decide) ?_
        refine VL.split_ndec 21 rfl (fun h21 => ?_) (fun h21 => ?_)
        ·
          replace hS := it_f h21 hS
          refine VL.gn rfl rfl rfl (by decide) ?_
          refine VL.gn rfl rfl rfl (by decide) ?_
          refine VL.gn rfl rfl rfl (by decide) ?_
          refine VL.gn rfl rfl rfl (by decide) ?_
          refine VL.gn rfl rfl rfl (by decide) ?_
          refine VL.gn rfl rfl rfl (by decide) ?_
          refine VL.gn rfl rfl rfl (by decide) ?_
          refine VL.gn rfl rfl rfl (by decide) ?_
          refine VL.gn rfl rfl rfl (by decide) ?_
          refine VL.q (q_pick_t rfl rfl) (by decide) ?_
          refine VL.mt true [0, 3, 31] (fun _ _ h => h) hS rfl
        ·
          replace hS := it_t h21 hS
          refine VL.gy rfl rfl (q_field gfa51_0 rfl) (by decide) ?_
          refine VL.gy rfl rfl (q_fe gone9 rfl rfl) (by decide) ?_
          refine VL.gy rfl rfl (q_field gfa51_1 rfl) (by decide) ?_
          refine VL.gy rfl rfl (q_fe gone3 rfl rfl) (by decide) ?_
          refine VL.gy rfl rfl (q_field gfa51_2 rfl) (by decide) ?_
          refine VL.gy rfl rfl (q_fe gone9 rfl rfl) (by decide) ?_
          refine VL.gy rfl rfl (q_build (vs := [(0, str f_1.path), (1, i64 f_1.mode), (2, str f_1.data)]) (cs := #[str f_1.path, i64 f_1.mode, str f_1.data]) rfl (by kernel_rfl)) (by decide) ?_
          obtain ⟨y29_7, ey29_7, hS⟩ := bd_s hS
          refine VL.gy rfl rfl (q_call (rectoref14_Cause_ct (⟨f_1.path, f_1.mode, f_1.data⟩ : Rectoref14File) ey29_7) rfl (fun _ _ => rfl)) (by decide) ?_
          refine VL.gy rfl rfl (q_neq rfl rfl) (by decide) ?_
          refine VL.q (q_pick_f rfl rfl) (by decide) ?_
          refine VL.mt (!decide (y29_7 = 0)) [0, 3, 31] (fun _ _ h => h) hS rfl
    · -- from there
      clear hS
      rintro x31_3 hS
      show VC _ _ _ _ _ [(0, r_0.val), (3, ptr b3_1 0), (31, .bool x31_3)] (Mo.and Mo.tt _) (Ow.star (Blk b3_1 [str f_1.path, i64 f_1.mode, str f_1.data] 51) (Ow.emp))
      refine VC.cond rfl (fun h31 => ?_) (fun h31 => ?_)
      ·
        replace hS := it_t h31 hS
        refine VC.seq ?_
        refine VC.region ?_
        refine VL.q (q_assign rfl) (by decide) ?_
        refine VL.to (fun _ _ h => h) ?_
        cases hS
        exact VC.ret (fin1 (.inr rfl) rfl rfl () rfl trivial (fun _ _ => trivial) (fun _ _ => trivial))
      ·
        replace hS := it_b h31 hS
        refine VC.skip_to (fun _ _ h => h) ?_
        refine VC.seq ?_
        refine VC.draw [(0, true), (1, true), (2, true), (4, true), (3, false), (5, false), (6, true)] mixed (by kernel_rfl) (by kernel_rfl) (by kernel_rfl) ?_
        refine VD.q rfl (q_move rfl) (by decide) ?_
        refine VD.q rfl (q_field gfa51_0 rfl) (by decide) ?_
        refine VD.q rfl (q_fe gone9 rfl rfl) (by decide) ?_
        refine VD.q rfl (q_fes gagg51 rfl rfl) (by decide) ?_
        refine VD.one rfl ?_
        obtain ⟨y35_8, ey35_8, hS⟩ := bd_s hS
        refine VL.callF (files_Row_Clear_ct r_0 f_1.path ey35_8) rfl (by decide) ?_
        rintro q35_8_0 rfl
        try dsimp only
        refine VL.back (D' := [(4, .agg #[str f_1.path, i64 f_1.mode, str f_1.data])]) (by kernel_rfl) (Pend.cons rfl (q_fes gagg51 rfl rfl) (Pend.nil)) ?_
        refine VD.one rfl ?_
        obtain ⟨y37_9, ey37_9, hS⟩ := bd_s hS
        refine VL.callF (files_Row_Put_ct q35_8_0 (⟨f_1.path, f_1.mode, f_1.data⟩ : FilesFile) ey37_9) rfl (by decide) ?_
        rintro q37_9_0 rfl
        try dsimp only
        refine VL.back (D' := []) (by kernel_rfl) (Pend.nil) ?_
        refine VD.q rfl (q_assign rfl) (by decide) ?_
        refine VD.to (fun _ _ h => h) ?_
        refine VC.seq ?_
        refine VC.region ?_
        refine VL.q (q_move rfl) (by decide) ?_
        refine VL.q (q_field gfa51_0 rfl) (by decide) ?_
        refine VL.q (q_fe gone9 rfl rfl) (by decide) ?_
        obtain ⟨y42_10, ey42_10, hS⟩ := bd_s hS
        refine VL.q (q_call (files_Row_Get_ct q37_9_0 f_1.path ey42_10) rfl (fun _ _ => rfl)) (by decide) ?_
        refine VL.q (q_move rfl) (by decide) ?_
        refine VL.q (q_extract rfl rfl) (by decide) ?_
        refine VL.q (q_extract rfl rfl) (by decide) ?_
        refine VL.alloc (cs := [str [], i64 0, str []]) (by kernel_rfl) (by decide) fun b6_11 => ?_
        refine VL.store (vc := [str y42_10.1.path, i64 y42_10.1.mode, str y42_10.1.data]) (cs' := [str y42_10.1.path, i64 y42_10.1.mode, str y42_10.1.data]) rfl rfl rfl gsz51 rfl rfl (Nat.le_of_ble_eq_true rfl) rfl ?_
        refine VL.q (q_assign rfl) (by decide) ?_
        refine VL.to (fun _ _ h => h) ?_
        refine VC.keep [0, 3, 5, 6, 7] rfl ?_
        refine VC.seq ?_
        refine VC.seq ?_
        refine VC.region ?_
        refine VL.q (q_move rfl) (by decide) ?_
        refine VL.q (q_ln (s := q37_9_0) Tryd.underlying34 rfl) (by decide) ?_
        refine VL.q (q_gtr rfl rfl) (by decide) ?_
        refine VL.to (fun _ _ h => h) ?_
        refine VC.cond_dec rfl (fun h47 => ?_) (fun h47 => ?_)
        ·
          replace hS := it_t h47 hS
          refine VC.seq ?_
          refine VC.region ?_
          refine VL.q (q_move rfl) (by decide) ?_
          obtain ⟨y49_12, ey49_12, hS⟩ := bd_s hS
          refine VL.callF (files_Row_Check_ct q37_9_0 ey49_12) rfl (by decide) ?_
          rintro q49_12_0 rfl
          try dsimp only
          refine VL.q (q_erne Tryd.underlying29 rfl) (by decide) ?_
          refine VL.q (q_assign rfl) (by decide) ?_
          refine VL.to (fun _ _ h => h) ?_
          refine VC.keep [4] rfl ?_
          cases hS
          exact VC.ret (fin1 (.inr rfl) rfl rfl () rfl trivial (fun _ _ => trivial) (fun _ _ => trivial))
        ·
          replace hS := it_f h47 hS
          refine VC.skip_to (fun _ _ h => h) ?_
          refine VC.seq ?_
          refine VC.seq ?_
          refine VC.region ?_
          refine VL.q (q_assign rfl) (by decide) ?_
          refine VL.to (fun _ _ h => h) ?_
          refine VC.block ?_
          refine VC.iter (S := Int) (fun (i8_13 : Int) => i8_13) (fun (i8_13 : Int) => [(0, r_0.val), (3, ptr b3_1 0), (5, q37_9_0.val), (6, ptr b6_11 0), (7, .bool y42_10.2), (8, i64 i8_13)]) (fun (i8_13 : Int) => Mo.tt) (fun (i8_13 : Int) => Ow.star (Blk b6_11 [str y42_10.1.path, i64 y42_10.1.mode, str y42_10.1.data] 51) (Ow.star (Blk b3_1 [str f_1.path, i64 f_1.mode, str f_1.data] 51) (Ow.emp))) 0 [0, 3, 5, 6, 7, 8] hS rfl ?_
          clear hS
          rintro i8_13 m1 y1 hS hK1
          show VC _ _ _ _ _ [(0, r_0.val), (3, ptr b3_1 0), (5, q37_9_0.val), (6, ptr b6_11 0), (7, .bool y42_10.2), (8, i64 i8_13)] (Mo.and Mo.tt _) (Ow.star (Blk b6_11 [str y42_10.1.path, i64 y42_10.1.mode, str y42_10.1.data] 51) (Ow.star (Blk b3_1 [str f_1.path, i64 f_1.mode, str f_1.data] 51) (Ow.emp)))
          refine VC.seq ?_
          refine VC.seq ?_
          refine VC.region ?_
          refine VL.q (q_move rfl) (by decide) ?_
          refine VL.q (q_move rfl) (by decide) ?_
          refine VL.q (q_ln (s := r_0) Tryd.underlying34 rfl) (by decide) ?_
          refine VL.q (q_lss rfl rfl) (by decide) ?_
          refine VL.to (fun _ _ h => h) ?_
          refine VC.cond_dec rfl (fun h54 => ?_) (fun h54 => ?_)
          ·
            replace hS := it_t h54 hS
            refine VC.skip_to (fun _ _ h => h) ?_
            refine VC.seq ?_
            refine VC.block ?_
            refine VC.seq ?_
            refine VC.region ?_
            refine VL.q (q_move rfl) (by decide) ?_
            refine VL.q (q_move rfl) (by decide) ?_
            refine VL.q (q_move rfl) (by decide) ?_
            obtain ⟨z61_14, nz61_14, hz61_14, hS⟩ := at_s hS
            refine VL.q (q_ixm (s := r_0) Tryd.underlying34 gsz51 rfl rfl nz61_14 (lt_of_get nz61_14 hz61_14)) (by decide) ?_
            refine VL.q (q_field gfa51_0 rfl) (by decide) ?_
            refine VL.q (q_elf (s := r_0) gone9 rfl hz61_14 rfl) (by decide) ?_
            obtain ⟨y64_15, ey64_15, hS⟩ := bd_s hS
            refine VL.q (q_call (files_Row_Get_ct q37_9_0 z61_14.path ey64_15) rfl (fun _ _ => rfl)) (by decide) ?_
            refine VL.q (q_move rfl) (by decide) ?_
            refine VL.q (q_extract rfl rfl) (by decide) ?_
            refine VL.q (q_extract rfl rfl) (by decide) ?_
            refine VL.alloc (cs := [str [], i64 0, str []]) (by kernel_rfl) (by decide) fun b9_16 => ?_
            refine VL.store (vc := [str y64_15.1.path, i64 y64_15.1.mode, str y64_15.1.data]) (cs' := [str y64_15.1.path, i64 y64_15.1.mode, str y64_15.1.data]) rfl rfl rfl gsz51 rfl rfl (Nat.le_of_ble_eq_true rfl) rfl ?_
            refine VL.q (q_assign rfl) (by decide) ?_
            refine VL.to (fun _ _ h => h) ?_
            refine VC.keep [0, 3, 5, 6, 7, 8, 10] rfl ?_
            refine VC.seq ?_
            refine VC.draw ((List.range 10).map fun k => (k, true)) mixed (by kernel_rfl) (by kernel_rfl) (by kernel_rfl) ?_
            refine VD.q rfl (q_move rfl) (by decide) ?_
            refine VD.q rfl (q_move rfl) (by decide) ?_
            refine VD.q rfl (q_move rfl) (by decide) ?_
            obtain ⟨z70_17, nz70_17, hz70_17, hS⟩ := at_s hS
            refine VD.q rfl (q_ixm (s := r_0) Tryd.underlying34 gsz51 rfl rfl nz70_17 (lt_of_get nz70_17 hz70_17)) (by decide) ?_
            refine VD.q rfl (q_field gfa51_0 rfl) (by decide) ?_
            refine VD.q rfl (q_elf (s := r_0) gone9 rfl hz70_17 rfl) (by decide) ?_
            refine VD.q rfl (q_field gfa51_0 rfl) (by decide) ?_
            refine VD.q rfl (q_fe gone9 rfl rfl) (by decide) ?_
            obtain ⟨y75_18, ey75_18, hS⟩ := bd_s hS
            refine VD.q rfl (q_call (rectoref1_Clash_ct z70_17.path f_1.path ey75_18) rfl (fun _ _ => rfl)) (by decide) ?_
            refine VD.q rfl (q_beql Tryd.underlying4 rfl rfl) (by decide) ?_
            refine VD.to (fun _ _ h => h) ?_
            refine VC.keep [0, 3, 5, 6, 7, 8, 76] rfl ?_
            refine VC.cond_dec rfl (fun h76 => ?_) (fun h76 => ?_)
            ·
              replace hS := it_t h76 hS
              refine VC.seq ?_
              refine VC.region ?_
              refine VL.q (q_assign rfl) (by decide) ?_
              refine VL.to (fun _ _ h => h) ?_
              replace hS := up2 hS hK1
              cases hS
              exact VC.ret (fin1 (.inr rfl) rfl rfl () rfl trivial (fun _ _ => trivial) (fun _ _ => trivial))
            ·
              replace hS := it_f h76 hS
              refine VC.skip_to (fun _ _ h => h) ?_
              refine VC.region ?_
              refine VL.q (q_move rfl) (by decide) ?_
              obtain ⟨b56, hS⟩ := gd_s hS
              refine VL.q (q_add rfl rfl b56) (by decide) ?_
              refine VL.q (q_assign rfl) (by decide) ?_
              refine VL.rnd (i8_13 + 1) [0, 3, 5, 6, 7, 8] (fun _ _ h => h) (go2 hS hK1) rfl
          ·
            replace hS := it_f h54 hS
            replace hS := up2 hS hK1
            refine VC.exit_to (fun _ _ h => h) ?_
            refine VC.seq ?_
            refine VC.region ?_
            refine VL.q (q_move rfl) (by decide) ?_
            obtain ⟨y78_19, ey78_19, hS⟩ := bd_s hS
            refine VL.callF (files_Row_Check_ct q37_9_0 ey78_19) rfl (by decide) ?_
            rintro q78_19_0 rfl
            try dsimp only
            refine VL.q (q_ereq Tryd.underlying29 rfl) (by decide) ?_
            refine VL.q (q_move rfl) (by decide) ?_
            refine VL.split_dec 80 rfl (fun h80 => ?_) (fun h80 => ?_)
            ·
              replace hS := it_t h80 hS
              refine VL.gy rfl rfl (q_move rfl) (by decide) ?_
              refine VL.q (q_pick_t rfl rfl) (by decide) ?_
              refine VL.q (q_move rfl) (by decide) ?_
              refine VL.split 83 rfl (fun h83 => ?_) (fun h83 => ?_)
              ·
                replace hS := it_t h83 hS
                refine VL.gy rfl rfl (q_fes gagg51 rfl rfl) (by decide) ?_
                refine VL.gy rfl rfl (q_fes gagg51 rfl rfl) (by decide) ?_
                refine VL.gy rfl rfl (q_steql geqg51 (geqs51 y42_10.1.path y42_10.1.mode y42_10.1.data f_1.path f_1.mode f_1.data) rfl rfl) (by decide) ?_
                refine VL.q (q_pick_t rfl rfl) (by decide) ?_
                refine VL.q (q_assign rfl) (by decide) ?_
                refine VL.to (fun _ _ h => h) ?_
                refine VC.keep [4] rfl ?_
                cases hS
                exact VC.ret (fin1 (.inr rfl) rfl rfl () rfl trivial (fun _ _ => trivial) (fun _ _ => trivial))
              ·
                replace hS := it_b h83 hS
                refine VL.gn rfl rfl rfl (by decide) ?_
                refine VL.gn rfl rfl rfl (by decide) ?_
                refine VL.gn rfl rfl rfl (by decide) ?_
                refine VL.q (q_pick_f rfl rfl) (by decide) ?_
                refine VL.q (q_assign rfl) (by decide) ?_
                refine VL.to (fun _ _ h => h) ?_
                refine VC.keep [4] rfl ?_
                cases hS
                exact VC.ret (fin1 (.inr rfl) rfl rfl () rfl trivial (fun _ _ => trivial) (fun _ _ => trivial))
            ·
              replace hS := it_f h80 hS
              refine VL.gn rfl rfl rfl (by decide) ?_
              refine VL.q (q_pick_f rfl rfl) (by decide) ?_
              refine VL.q (q_move rfl) (by decide) ?_
              refine VL.gn rfl rfl rfl (by decide) ?_
              refine VL.gn rfl rfl rfl (by decide) ?_
              refine VL.gn rfl rfl rfl (by decide) ?_
              refine VL.q (q_pick_f rfl rfl) (by decide) ?_
              refine VL.q (q_assign rfl) (by decide) ?_
              refine VL.to (fun _ _ h => h) ?_
              refine VC.keep [4] rfl ?_
              cases hS
              exact VC.ret (fin1 (.inr rfl) rfl rfl () rfl trivial (fun _ _ => trivial) (fun _ _ => trivial))

set_option maxHeartbeats 4000000 in
set_option maxRecDepth 100000 in
theorem rectolaw14_Rises_ct (r_0 : Sv FilesFile) {r : Bool} (hS : Sh.rectolaw14_Rises r_0.l = some r) :
    Ct Tryd.prog 14 [r_0.val] r_0.ok (Ow.emp) (X := Unit) (fun _ => .bool r) (fun _ => True) (fun _ => Mo.tt) (fun _ => Ow.emp) := by
  refine Ct.of Tryd.func14 rfl (by kernel_rfl) Tryd.ntmps14 (by simp) fun c => ?_
  unfold Sh.rectolaw14_Rises at hS
  refine VC.seq ?_
  refine VC.region ?_
  refine VL.q (q_assign rfl) (by decide) ?_
  refine VL.to (fun _ _ h => h) ?_
  refine VC.seq ?_
  refine VC.seq ?_
  refine VC.region ?_
  refine VL.q (q_assign rfl) (by decide) ?_
  refine VL.to (fun _ _ h => h) ?_
  refine VC.block ?_
  refine VC.iter (S := Int) (fun (i3_1 : Int) => i3_1) (fun (i3_1 : Int) => [(0, r_0.val), (3, i64 i3_1)]) (fun (i3_1 : Int) => Mo.tt) (fun (i3_1 : Int) => Ow.emp) 1 [0, 3] hS rfl ?_
  clear hS
  rintro i3_1 m1 y1 hS hK1
  show VC _ _ _ _ _ [(0, r_0.val), (3, i64 i3_1)] (Mo.and Mo.tt _) (Ow.emp)
  refine VC.seq ?_
  refine VC.seq ?_
  refine VC.region ?_
  refine VL.q (q_move rfl) (by decide) ?_
  refine VL.q (q_move rfl) (by decide) ?_
  refine VL.q (q_ln (s := r_0) Tryd.underlying34 rfl) (by decide) ?_
  refine VL.q (q_lss rfl rfl) (by decide) ?_
  refine VL.to (fun _ _ h => h) ?_
  refine VC.cond_dec rfl (fun h7 => ?_) (fun h7 => ?_)
  ·
    replace hS := it_t h7 hS
    refine VC.skip_to (fun _ _ h => h) ?_
    refine VC.seq ?_
    refine VC.block ?_
    refine VC.seq ?_
    refine VC.draw ((List.range 12).map fun k => (k, true)) mixed (by kernel_rfl) (by kernel_rfl) (by kernel_rfl) ?_
    refine VD.q rfl (q_move rfl) (by decide) ?_
    refine VD.q rfl (q_move rfl) (by decide) ?_
    obtain ⟨b12, hS⟩ := gd_s hS
    refine VD.q rfl (q_sub rfl rfl b12) (by decide) ?_
    obtain ⟨z13_2, nz13_2, hz13_2, hS⟩ := at_s hS
    refine VD.q rfl (q_ixm (s := r_0) Tryd.underlying34 gsz51 rfl rfl nz13_2 (lt_of_get nz13_2 hz13_2)) (by decide) ?_
    refine VD.q rfl (q_field gfa51_0 rfl) (by decide) ?_
    refine VD.q rfl (q_elf (s := r_0) gone9 rfl hz13_2 rfl) (by decide) ?_
    refine VD.q rfl (q_move rfl) (by decide) ?_
    refine VD.q rfl (q_move rfl) (by decide) ?_
    obtain ⟨z18_3, nz18_3, hz18_3, hS⟩ := at_s hS
    refine VD.q rfl (q_ixm (s := r_0) Tryd.underlying34 gsz51 rfl rfl nz18_3 (lt_of_get nz18_3 hz18_3)) (by decide) ?_
    refine VD.q rfl (q_field gfa51_0 rfl) (by decide) ?_
    refine VD.q rfl (q_elf (s := r_0) gone9 rfl hz18_3 rfl) (by decide) ?_
    refine VD.q rfl (q_sgeq rfl rfl) (by decide) ?_
    refine VD.to (fun _ _ h => h) ?_
    refine VC.keep [0, 3, 21] rfl ?_
    refine VC.cond rfl (fun h21 => ?_) (fun h21 => ?_)
    ·
      replace hS := it_t h21 hS
      refine VC.seq ?_
      refine VC.region ?_
      refine VL.q (q_assign rfl) (by decide) ?_
      refine VL.to (fun _ _ h => h) ?_
      replace hS := up2 hS hK1
      cases hS
      exact VC.ret (fin1 (.inr rfl) rfl rfl () rfl trivial (fun _ _ => trivial) (fun _ _ => trivial))
    ·
      replace hS := it_b h21 hS
      refine VC.skip_to (fun _ _ h => h) ?_
      refine VC.region ?_
      refine VL.q (q_move rfl) (by decide) ?_
      obtain ⟨b9, hS⟩ := gd_s hS
      refine VL.q (q_add rfl rfl b9) (by decide) ?_
      refine VL.q (q_assign rfl) (by decide) ?_
      refine VL.rnd (i3_1 + 1) [0, 3] (fun _ _ h => h) (go2 hS hK1) rfl
  ·
    replace hS := it_f h7 hS
    replace hS := up2 hS hK1
    refine VC.exit_to (fun _ _ h => h) ?_
    refine VC.seq ?_
    refine VC.region ?_
    refine VL.q (q_assign rfl) (by decide) ?_
    refine VL.to (fun _ _ h => h) ?_
    cases hS
    exact VC.ret (fin1 (.inr rfl) rfl rfl () rfl trivial (fun _ _ => trivial) (fun _ _ => trivial))

set_option maxHeartbeats 4000000 in
set_option maxRecDepth 100000 in
theorem rectolaw14_Of_ct (r_0 : Sv FilesFile) {r : List Rectoref14File} (hS : Sh.rectolaw14_Of r_0.l = some r) :
    Ct Tryd.prog 15 [r_0.val] r_0.ok (Ow.emp) (X := Sv Rectoref14File) (fun x => x.val) (fun x => r = x.l) (fun x => Mo.tt) (fun x => Sv.own x 54) := by
  refine Ct.of Tryd.func15 rfl (by kernel_rfl) Tryd.ntmps15 (by simp) fun c => ?_
  unfold Sh.rectolaw14_Of at hS
  refine VC.seq ?_
  refine VC.region ?_
  refine VL.q (q_assign rfl) (by decide) ?_
  refine VL.to (fun _ _ h => h) ?_
  refine VC.seq ?_
  refine VC.region ?_
  refine VL.q (q_assign rfl) (by decide) ?_
  refine VL.to (fun _ _ h => h) ?_
  refine VC.seq ?_
  refine VC.seq ?_
  refine VC.region ?_
  refine VL.q (q_assign rfl) (by decide) ?_
  refine VL.to (fun _ _ h => h) ?_
  refine VC.block ?_
  refine VC.nilO (⟨none, 0, []⟩ : Sv Rectoref14File) 54 ⟨rfl, rfl⟩ ?_
  refine VC.iter (S := Sv Rectoref14File × Int) (fun sg => (sg.1.l, sg.2)) (fun sg => [(0, r_0.val), (3, sg.1.val), (4, i64 sg.2)]) (fun sg => Mo.tt) (fun sg => Ow.star (Sv.own sg.1 54) (Ow.emp)) (⟨none, 0, []⟩, 0) [0, 3, 4] hS rfl ?_
  clear hS
  rintro ⟨out3_1, i4_2⟩ m1 y1 hS hK1
  show VC _ _ _ _ _ [(0, r_0.val), (3, out3_1.val), (4, i64 i4_2)] (Mo.and Mo.tt _) (Ow.star (Sv.own out3_1 54) (Ow.emp))
  refine VC.seq ?_
  refine VC.seq ?_
  refine VC.region ?_
  refine VL.q (q_move rfl) (by decide) ?_
  refine VL.q (q_move rfl) (by decide) ?_
  refine VL.q (q_ln (s := r_0) Tryd.underlying34 rfl) (by decide) ?_
  refine VL.q (q_lss rfl rfl) (by decide) ?_
  refine VL.to (fun _ _ h => h) ?_
  refine VC.cond_dec rfl (fun h8 => ?_) (fun h8 => ?_)
  ·
    replace hS := it_t h8 hS
    refine VC.skip_to (fun _ _ h => h) ?_
    refine VC.seq ?_
    refine VC.block ?_
    refine VC.draw [(0, true), (1, true), (2, true), (3, true), (4, true), (5, true), (6, true), (7, true), (8, true), (9, true), (10, true), (11, true), (12, true), (13, true), (14, true), (15, true), (16, true), (17, false), (18, false), (19, true)] mixed (by kernel_rfl) (by kernel_rfl) (by kernel_rfl) ?_
    refine VD.q rfl (q_move rfl) (by decide) ?_
    refine VD.q rfl (q_move rfl) (by decide) ?_
    refine VD.q rfl (q_move rfl) (by decide) ?_
    obtain ⟨z14_3, nz14_3, hz14_3, hS⟩ := at_s hS
    refine VD.q rfl (q_ixm (s := r_0) Tryd.underlying34 gsz51 rfl rfl nz14_3 (lt_of_get nz14_3 hz14_3)) (by decide) ?_
    refine VD.q rfl (q_field gfa51_0 rfl) (by decide) ?_
    refine VD.q rfl (q_elf (s := r_0) gone9 rfl hz14_3 rfl) (by decide) ?_
    refine VD.q rfl (q_move rfl) (by decide) ?_
    refine VD.q rfl (q_move rfl) (by decide) ?_
    obtain ⟨z19_4, nz19_4, hz19_4, hS⟩ := at_s hS
    refine VD.q rfl (q_ixm (s := r_0) Tryd.underlying34 gsz51 rfl rfl nz19_4 (lt_of_get nz19_4 hz19_4)) (by decide) ?_
    refine VD.q rfl (q_field gfa51_1 rfl) (by decide) ?_
    refine VD.q rfl (q_elf (s := r_0) gone3 rfl hz19_4 rfl) (by decide) ?_
    refine VD.q rfl (q_move rfl) (by decide) ?_
    refine VD.q rfl (q_move rfl) (by decide) ?_
    obtain ⟨z24_5, nz24_5, hz24_5, hS⟩ := at_s hS
    refine VD.q rfl (q_ixm (s := r_0) Tryd.underlying34 gsz51 rfl rfl nz24_5 (lt_of_get nz24_5 hz24_5)) (by decide) ?_
    refine VD.q rfl (q_field gfa51_2 rfl) (by decide) ?_
    refine VD.q rfl (q_elf (s := r_0) gone9 rfl hz24_5 rfl) (by decide) ?_
    refine VD.q rfl (q_build (vs := [(0, str z14_3.path), (1, i64 z19_4.mode), (2, str z24_5.data)]) (cs := #[str z14_3.path, i64 z19_4.mode, str z24_5.data]) rfl (by kernel_rfl)) (by decide) ?_
    refine VD.one rfl ?_
    refine VL.lit (α := Rectoref14File) (xs := [.tmp 27]) (vs := [.agg #[str z14_3.path, i64 z19_4.mode, str z24_5.data]]) [⟨z14_3.path, z19_4.mode, z24_5.data⟩] Tryd.underlying36 glit54 (by decide) rfl rfl rfl rfl (by decide) (fun _ _ _ _ => trivial) (by decide) (fun s28_6 hs28_6 => ?_) (by decide)
    replace hS := lt_to hs28_6 hS
    refine VL.back (D' := []) (by kernel_rfl) (Pend.nil) ?_
    refine VD.one rfl ?_
    obtain ⟨b29, hS⟩ := gd_s hS
    refine VL.app (s := out3_1) (r := s28_6) Tryd.underlying36 gapp54 (by decide) rfl Fo.out (ap1 b29) (ap2 b29 (by decide)) (by decide) (fun s29_8 hs29_8 => ?_)
    replace hS := lt_to hs29_8 hS
    refine VL.back (D' := []) (by kernel_rfl) (Pend.nil) ?_
    refine VD.q rfl (q_assign rfl) (by decide) ?_
    refine VD.to (fun _ _ h => h) ?_
    refine VC.keep [0, 3, 4] rfl ?_
    refine VC.region ?_
    refine VL.q (q_move rfl) (by decide) ?_
    obtain ⟨b10, hS⟩ := gd_s hS
    refine VL.q (q_add rfl rfl b10) (by decide) ?_
    refine VL.q (q_assign rfl) (by decide) ?_
    refine VL.rnd (s29_8, (i4_2 + 1)) [0, 3, 4] (fun _ _ h => h) (go2 hS hK1) rfl
  ·
    replace hS := it_f h8 hS
    replace hS := up2 hS hK1
    refine VC.exit_to (fun _ _ h => h) ?_
    refine VC.seq ?_
    refine VC.region ?_
    refine VL.q (q_move rfl) (by decide) ?_
    refine VL.q (q_assign rfl) (by decide) ?_
    refine VL.to (fun _ _ h => h) ?_
    cases hS
    exact VC.ret (fin1 (.inr rfl) rfl rfl out3_1 rfl rfl (by (try dsimp only); exact InM.out) (by (try dsimp only); exact EntO.out))

set_option maxHeartbeats 4000000 in
set_option maxRecDepth 100000 in
theorem rectoref14_Put_ct (r_0 : Sv Rectoref14File) (f_1 : Rectoref14File) {r : List Rectoref14File} (hS : Sh.rectoref14_Put r_0.l f_1 = some r) :
    Ct Tryd.prog 48 [r_0.val, .agg #[str f_1.path, i64 f_1.mode, str f_1.data]] r_0.ok (Ow.emp) (X := Sv Rectoref14File) (fun x => x.val) (fun x => r = x.l) (fun x => Mo.tt) (fun x => Sv.own x 54) := by
  refine Ct.of Tryd.func48 rfl (by kernel_rfl) Tryd.ntmps48 (by simp) fun c => ?_
  unfold Sh.rectoref14_Put at hS
  refine VC.seq ?_
  refine VC.region ?_
  refine VL.box (cs := [str f_1.path, i64 f_1.mode, str f_1.data]) rfl rfl (by decide) fun b3_1 => ?_
  refine VL.q (q_assign rfl) (by decide) ?_
  refine VL.to (fun _ _ h => h) ?_
  refine VC.seq ?_
  refine VC.region ?_
  refine VL.q (q_assign rfl) (by decide) ?_
  refine VL.to (fun _ _ h => h) ?_
  refine VC.seq ?_
  refine VC.region ?_
  refine VL.q (q_assign rfl) (by decide) ?_
  refine VL.to (fun _ _ h => h) ?_
  refine VC.seq ?_
  refine VC.seq ?_
  refine VC.region ?_
  refine VL.q (q_assign rfl) (by decide) ?_
  refine VL.to (fun _ _ h => h) ?_
  refine VC.block ?_
  refine VC.nilO (⟨none, 0, []⟩ : Sv Rectoref14File) 54 ⟨rfl, rfl⟩ ?_
  refine VC.iter (S := Sv Rectoref14File × Bool × Int) (fun sg => (sg.1.l, sg.2.1, sg.2.2)) (fun sg => [(0, r_0.val), (3, ptr b3_1 0), (5, sg.1.val), (6, .bool sg.2.1), (7, i64 sg.2.2)]) (fun sg => Mo.tt) (fun sg => Ow.star (Blk b3_1 [str f_1.path, i64 f_1.mode, str f_1.data] 54) (Ow.star (Sv.own sg.1 54) (Ow.emp))) (⟨none, 0, []⟩, false, 0) [0, 3, 5, 6, 7] hS rfl ?_
  clear hS
  rintro ⟨out5_2, put6_3, i7_4⟩ m1 y1 hS hK1
  show VC _ _ _ _ _ [(0, r_0.val), (3, ptr b3_1 0), (5, out5_2.val), (6, .bool put6_3), (7, i64 i7_4)] (Mo.and Mo.tt _) (Ow.star (Blk b3_1 [str f_1.path, i64 f_1.mode, str f_1.data] 54) (Ow.star (Sv.own out5_2 54) (Ow.emp)))
  refine VC.seq ?_
  refine VC.seq ?_
  refine VC.region ?_
  refine VL.q (q_move rfl) (by decide) ?_
  refine VL.q (q_move rfl) (by decide) ?_
  refine VL.q (q_ln (s := r_0) Tryd.underlying36 rfl) (by decide) ?_
  refine VL.q (q_lss rfl rfl) (by decide) ?_
  refine VL.to (fun _ _ h => h) ?_
  refine VC.cond_dec rfl (fun h11 => ?_) (fun h11 => ?_)
  ·
    replace hS := it_t h11 hS
    refine VC.skip_to (fun _ _ h => h) ?_
    refine VC.cutJ (S := Sv Rectoref14File × Bool) (fun sg => (sg.1.l, sg.2)) (fun sg => [(0, r_0.val), (3, ptr b3_1 0), (5, sg.1.val), (6, .bool sg.2), (7, i64 i7_4)]) (fun sg => Mo.tt) (fun sg => Ow.star (Blk b3_1 [str f_1.path, i64 f_1.mode, str f_1.data] 54) (Ow.star (Sv.own sg.1 54) (Ow.emp))) hS ?_ ?_
    · -- up to where ways meet
      clear hS
      intro k7 hS
      refine VC.block ?_
      refine VC.cutJ (S := Sv Rectoref14File × Bool) (fun sg => (sg.1.l, sg.2)) (fun sg => [(0, r_0.val), (3, ptr b3_1 0), (5, sg.1.val), (6, .bool sg.2), (7, i64 i7_4)]) (fun sg => Mo.tt) (fun sg => Ow.star (Blk b3_1 [str f_1.path, i64 f_1.mode, str f_1.data] 54) (Ow.star (Sv.own sg.1 54) (Ow.emp))) hS ?_ ?_
      · -- up to where ways meet
        clear hS
        intro k10 hS
        refine VC.cutJ (S := Bool) (fun (x25_11 : Bool) => x25_11) (fun (x25_11 : Bool) => [(0, r_0.val), (3, ptr b3_1 0), (5, out5_2.val), (6, .bool put6_3), (7, i64 i7_4), (25, .bool x25_11)]) (fun (x25_11 : Bool) => Mo.tt) (fun (x25_11 : Bool) => Ow.star (Blk b3_1 [str f_1.path, i64 f_1.mode, str f_1.data] 54) (Ow.star (Sv.own out5_2 54) (Ow.emp))) hS ?_ ?_
        · -- up to where ways meet
          clear hS
          intro k12 hS
          refine VC.draw ((List.range 12).map fun k => (k, true)) mixed (by kernel_rfl) (by kernel_rfl) (by kernel_rfl) ?_
          refine VD.q rfl (q_move rfl) (by decide) ?_
          refine VD.q rfl (q_not rfl) (by decide) ?_
          refine VD.q rfl (q_move rfl) (by decide) ?_
          refine VD.split 16 rfl (fun h16 => ?_) (fun h16 => ?_)
          ·
            replace hS := it_t h16 hS
            refine VD.gy rfl rfl rfl (q_move rfl) (by decide) ?_
            refine VD.gy rfl rfl rfl (q_move rfl) (by decide) ?_
            obtain ⟨z19_13, nz19_13, hz19_13, hS⟩ := at_s hS
            refine VD.gy rfl rfl rfl (q_ixm (s := r_0) Tryd.underlying36 gsz54 rfl rfl nz19_13 (lt_of_get nz19_13 hz19_13)) (by decide) ?_
            refine VD.gy rfl rfl rfl (q_field gfa54_0 rfl) (by decide) ?_
            refine VD.gy rfl rfl rfl (q_elf (s := r_0) gone9 rfl hz19_13 rfl) (by decide) ?_
            refine VD.gy rfl rfl rfl (q_field gfa54_0 rfl) (by decide) ?_
            refine VD.gy rfl rfl rfl (q_fe gone9 rfl rfl) (by decide) ?_
            refine VD.gy rfl rfl rfl (q_sgeq rfl rfl) (by decide) ?_
            refine VD.q rfl (q_pick_t rfl rfl) (by decide) ?_
            refine VD.mt (!Op.bytesLess z19_13.path f_1.path) [0, 3, 5, 6, 7, 25] (fun _ _ h => h) hS rfl
          ·
            replace hS := it_b h16 hS
            refine VD.gn rfl rfl rfl rfl (by decide) ?_
            refine VD.gn rfl rfl rfl rfl (by decide) ?_
            refine VD.gn rfl rfl rfl rfl (by decide) ?_
            refine VD.gn rfl rfl rfl rfl (by decide) ?_
            refine VD.gn rfl rfl rfl rfl (by decide) ?_
            refine VD.gn rfl rfl rfl rfl (by decide) ?_
            refine VD.gn rfl rfl rfl rfl (by decide) ?_
            refine VD.gn rfl rfl rfl rfl (by decide) ?_
            refine VD.q rfl (q_pick_f rfl rfl) (by decide) ?_
            refine VD.mt false [0, 3, 5, 6, 7, 25] (fun _ _ h => h) hS rfl
        · -- from there
          clear hS
          rintro x25_11 hS
          show VC _ _ _ _ _ [(0, r_0.val), (3, ptr b3_1 0), (5, out5_2.val), (6, .bool put6_3), (7, i64 i7_4), (25, .bool x25_11)] (Mo.and Mo.tt _) (Ow.star (Blk b3_1 [str f_1.path, i64 f_1.mode, str f_1.data] 54) (Ow.star (Sv.own out5_2 54) (Ow.emp)))
          refine VC.cond rfl (fun h25 => ?_) (fun h25 => ?_)
          ·
            replace hS := it_t h25 hS
            refine VC.seq ?_
            refine VC.region ?_
            refine VL.q (q_move rfl) (by decide) ?_
            refine VL.q (q_fes gagg54 rfl rfl) (by decide) ?_
            refine VL.lit (α := Rectoref14File) (xs := [.tmp 27]) (vs := [.agg #[str f_1.path, i64 f_1.mode, str f_1.data]]) [⟨f_1.path, f_1.mode, f_1.data⟩] Tryd.underlying36 glit54 (by decide) rfl rfl rfl rfl (by decide) (fun _ _ _ _ => trivial) (by decide) (fun s28_14 hs28_14 => ?_) (by decide)
            replace hS := lt_to hs28_14 hS
            obtain ⟨b29, hS⟩ := gd_s hS
            refine VL.app (s := out5_2) (r := s28_14) Tryd.underlying36 gapp54 (by decide) rfl Fo.out (ap1 b29) (ap2 b29 (by decide)) (by decide) (fun s29_16 hs29_16 => ?_)
            replace hS := lt_to hs29_16 hS
            refine VL.q (q_assign rfl) (by decide) ?_
            refine VL.to (fun _ _ h => h) ?_
            refine VC.region ?_
            refine VL.q (q_assign rfl) (by decide) ?_
            refine VL.mt (s29_16, true) [0, 3, 5, 6, 7] (fun _ _ h => h) hS rfl
          ·
            replace hS := it_b h25 hS
            refine VC.skip_mt (out5_2, put6_3) [0, 3, 5, 6, 7] (fun _ _ h => h) hS rfl
      · -- from there
        clear hS
        rintro ⟨out5_8, put6_9⟩ hS
        show VC _ _ _ _ _ [(0, r_0.val), (3, ptr b3_1 0), (5, out5_8.val), (6, .bool put6_9), (7, i64 i7_4)] (Mo.and Mo.tt _) (Ow.star (Blk b3_1 [str f_1.path, i64 f_1.mode, str f_1.data] 54) (Ow.star (Sv.own out5_8 54) (Ow.emp)))
        refine VC.seq ?_
        refine VC.draw ((List.range 8).map fun k => (k, true)) mixed (by kernel_rfl) (by kernel_rfl) (by kernel_rfl) ?_
        refine VD.q rfl (q_move rfl) (by decide) ?_
        refine VD.q rfl (q_move rfl) (by decide) ?_
        obtain ⟨z32_18, nz32_18, hz32_18, hS⟩ := at_s hS
        refine VD.q rfl (q_ixm (s := r_0) Tryd.underlying36 gsz54 rfl rfl nz32_18 (lt_of_get nz32_18 hz32_18)) (by decide) ?_
        refine VD.q rfl (q_field gfa54_0 rfl) (by decide) ?_
        refine VD.q rfl (q_elf (s := r_0) gone9 rfl hz32_18 rfl) (by decide) ?_
        refine VD.q rfl (q_field gfa54_0 rfl) (by decide) ?_
        refine VD.q rfl (q_fe gone9 rfl rfl) (by decide) ?_
        refine VD.q rfl (q_sne rfl rfl) (by decide) ?_
        refine VD.to (fun _ _ h => h) ?_
        refine VC.keep [0, 3, 5, 6, 7, 37] rfl ?_
        refine VC.cond_ndec rfl (fun h37 => ?_) (fun h37 => ?_)
        ·
          replace hS := it_f h37 hS
          refine VC.region ?_
          refine VL.q (q_move rfl) (by decide) ?_
          refine VL.q (q_move rfl) (by decide) ?_
          refine VL.q (q_move rfl) (by decide) ?_
          obtain ⟨z41_19, nz41_19, hz41_19, hS⟩ := at_s hS
          refine VL.q (q_ixm (s := r_0) Tryd.underlying36 gsz54 rfl rfl nz41_19 (lt_of_get nz41_19 hz41_19)) (by decide) ?_
          refine VL.q (q_els (s := r_0) gagg54 rfl rfl hz41_19) (by decide) ?_
          refine VL.lit (α := Rectoref14File) (xs := [.tmp 42]) (vs := [.agg #[str z41_19.path, i64 z41_19.mode, str z41_19.data]]) [⟨z41_19.path, z41_19.mode, z41_19.data⟩] Tryd.underlying36 glit54 (by decide) rfl rfl rfl rfl (by decide) (fun _ _ _ _ => trivial) (by decide) (fun s43_20 hs43_20 => ?_) (by decide)
          replace hS := lt_to hs43_20 hS
          obtain ⟨b44, hS⟩ := gd_s hS
          refine VL.app (s := out5_8) (r := s43_20) Tryd.underlying36 gapp54 (by decide) rfl Fo.out (ap1 b44) (ap2 b44 (by decide)) (by decide) (fun s44_22 hs44_22 => ?_)
          replace hS := lt_to hs44_22 hS
          refine VL.q (q_assign rfl) (by decide) ?_
          refine VL.mt (s44_22, put6_9) [0, 3, 5, 6, 7] (fun _ _ h => h) hS rfl
        ·
          replace hS := it_t h37 hS
          refine VC.skip_mt (out5_8, put6_9) [0, 3, 5, 6, 7] (fun _ _ h => h) hS rfl
    · -- from there
      clear hS
      rintro ⟨out5_5, put6_6⟩ hS
      show VC _ _ _ _ _ [(0, r_0.val), (3, ptr b3_1 0), (5, out5_5.val), (6, .bool put6_6), (7, i64 i7_4)] (Mo.and Mo.tt _) (Ow.star (Blk b3_1 [str f_1.path, i64 f_1.mode, str f_1.data] 54) (Ow.star (Sv.own out5_5 54) (Ow.emp)))
      refine VC.region ?_
      refine VL.q (q_move rfl) (by decide) ?_
      obtain ⟨b13, hS⟩ := gd_s hS
      refine VL.q (q_add rfl rfl b13) (by decide) ?_
      refine VL.q (q_assign rfl) (by decide) ?_
      refine VL.rnd (out5_5, put6_6, (i7_4 + 1)) [0, 3, 5, 6, 7] (fun _ _ h => h) (go2 hS hK1) rfl
  ·
    replace hS := it_f h11 hS
    replace hS := up2 hS hK1
    refine VC.exit_to (fun _ _ h => h) ?_
    refine VC.seq ?_
    refine VC.seq ?_
    refine VC.region ?_
    refine VL.q (q_move rfl) (by decide) ?_
    refine VL.q (q_not rfl) (by decide) ?_
    refine VL.to (fun _ _ h => h) ?_
    refine VC.keep [3, 5, 46] rfl ?_
    refine VC.cond rfl (fun h46 => ?_) (fun h46 => ?_)
    ·
      replace hS := it_t h46 hS
      refine VC.region ?_
      refine VL.q (q_move rfl) (by decide) ?_
      refine VL.q (q_fes gagg54 rfl rfl) (by decide) ?_
      refine VL.lit (α := Rectoref14File) (xs := [.tmp 48]) (vs := [.agg #[str f_1.path, i64 f_1.mode, str f_1.data]]) [⟨f_1.path, f_1.mode, f_1.data⟩] Tryd.underlying36 glit54 (by decide) rfl rfl rfl rfl (by decide) (fun _ _ _ _ => trivial) (by decide) (fun s49_24 hs49_24 => ?_) (by decide)
      replace hS := lt_to hs49_24 hS
      obtain ⟨b50, hS⟩ := gd_s hS
      refine VL.app (s := out5_2) (r := s49_24) Tryd.underlying36 gapp54 (by decide) rfl Fo.out (ap1 b50) (ap2 b50 (by decide)) (by decide) (fun s50_26 hs50_26 => ?_)
      replace hS := lt_to hs50_26 hS
      refine VL.q (q_assign rfl) (by decide) ?_
      refine VL.to (fun _ _ h => h) ?_
      refine VC.seq ?_
      refine VC.region ?_
      refine VL.q (q_move rfl) (by decide) ?_
      refine VL.q (q_assign rfl) (by decide) ?_
      refine VL.to (fun _ _ h => h) ?_
      cases hS
      exact VC.ret (fin1 (.inr rfl) rfl rfl s50_26 rfl rfl (by (try dsimp only); exact InM.out) (by (try dsimp only); exact EntO.out))
    ·
      replace hS := it_b h46 hS
      refine VC.skip_to (fun _ _ h => h) ?_
      refine VC.seq ?_
      refine VC.region ?_
      refine VL.q (q_move rfl) (by decide) ?_
      refine VL.q (q_assign rfl) (by decide) ?_
      refine VL.to (fun _ _ h => h) ?_
      cases hS
      exact VC.ret (fin1 (.inr rfl) rfl rfl out5_2 rfl rfl (by (try dsimp only); exact InM.out) (by (try dsimp only); exact EntO.out))

set_option maxHeartbeats 4000000 in
set_option maxRecDepth 100000 in
theorem rectoref14_Paths_ct (l_0 : Sv (Sv Rectoref14File)) {r : List Str} (hS : Sh.rectoref14_Paths (l_0.l.map Sv.l) = some r) :
    Ct Tryd.prog 16 [l_0.val] l_0.ok (Ow.emp) (X := Sv Str) (fun x => x.val) (fun x => r = x.l) (fun x => Mo.tt) (fun x => Sv.own x 9) := by
  refine Ct.of Tryd.func16 rfl (by kernel_rfl) Tryd.ntmps16 (by simp) fun c => ?_
  unfold Sh.rectoref14_Paths at hS
  refine VC.seq ?_
  refine VC.region ?_
  refine VL.q (q_assign rfl) (by decide) ?_
  refine VL.to (fun _ _ h => h) ?_
  refine VC.seq ?_
  refine VC.region ?_
  refine VL.q (q_assign rfl) (by decide) ?_
  refine VL.to (fun _ _ h => h) ?_
  refine VC.seq ?_
  refine VC.seq ?_
  refine VC.region ?_
  refine VL.q (q_assign rfl) (by decide) ?_
  refine VL.to (fun _ _ h => h) ?_
  refine VC.block ?_
  refine VC.nilO (⟨none, 0, []⟩ : Sv Rectoref14File) 54 ⟨rfl, rfl⟩ ?_
  refine VC.iter (S := Sv Rectoref14File × Int) (fun sg => (sg.1.l, sg.2)) (fun sg => [(0, l_0.val), (3, sg.1.val), (4, i64 sg.2)]) (fun sg => Mo.tt) (fun sg => Ow.star (Sv.own sg.1 54) (Ow.emp)) (⟨none, 0, []⟩, 0) [0, 3, 4] hS rfl ?_
  clear hS
  rintro ⟨r3_1, i4_2⟩ m1 y1 hS hK1
  show VC _ _ _ _ _ [(0, l_0.val), (3, r3_1.val), (4, i64 i4_2)] (Mo.and Mo.tt _) (Ow.star (Sv.own r3_1 54) (Ow.emp))
  refine VC.seq ?_
  refine VC.seq ?_
  refine VC.region ?_
  refine VL.q (q_move rfl) (by decide) ?_
  refine VL.q (q_move rfl) (by decide) ?_
  refine VL.q (q_lnm Sv.l (s := l_0) Tryd.underlying40 rfl) (by decide) ?_
  refine VL.q (q_lss rfl rfl) (by decide) ?_
  refine VL.to (fun _ _ h => h) ?_
  refine VC.cond_dec rfl (fun h11 => ?_) (fun h11 => ?_)
  ·
    replace hS := it_t h11 hS
    refine VC.skip_to (fun _ _ h => h) ?_
    refine VC.seq ?_
    refine VC.block ?_
    refine VC.seq ?_
    refine VC.region ?_
    refine VL.q (q_assign rfl) (by decide) ?_
    refine VL.to (fun _ _ h => h) ?_
    refine VC.block ?_
    refine VC.iter (S := Sv Rectoref14File × Int) (fun sg => (sg.1.l, sg.2)) (fun sg => [(0, l_0.val), (3, sg.1.val), (4, i64 i4_2), (5, i64 sg.2)]) (fun sg => Mo.tt) (fun sg => Ow.star (Sv.own sg.1 54) (Ow.emp)) (r3_1, 0) [0, 3, 4, 5] hS rfl ?_
    clear hS
    rintro ⟨r3_3, k5_4⟩ m2 y2 hS hK2
    show VC _ _ _ _ _ [(0, l_0.val), (3, r3_3.val), (4, i64 i4_2), (5, i64 k5_4)] (Mo.and Mo.tt _) (Ow.star (Sv.own r3_3 54) (Ow.emp))
    refine VC.seq ?_
    refine VC.seq ?_
    refine VC.region ?_
    refine VL.q (q_move rfl) (by decide) ?_
    refine VL.q (q_move rfl) (by decide) ?_
    refine VL.q (q_move rfl) (by decide) ?_
    obtain ⟨z17_5, nz17_5, hz17_5, hS⟩ := atm_s hS
    refine VL.deep z17_5.ok hz17_5 (fun _ q => q) ?_
    refine VL.q (q_ixm (s := l_0) Tryd.underlying40 gsz36 rfl rfl nz17_5 (lt_of_get nz17_5 hz17_5)) (by decide) ?_
    refine VL.q (q_el (s := l_0) gone36 rfl hz17_5 rfl) (by decide) ?_
    refine VL.q (q_ln (s := z17_5) Tryd.underlying36 rfl) (by decide) ?_
    refine VL.q (q_lss rfl rfl) (by decide) ?_
    refine VL.to (fun _ _ h => h) ?_
    refine VC.cond_dec rfl (fun h20 => ?_) (fun h20 => ?_)
    ·
      replace hS := it_t h20 hS
      refine VC.skip_to (fun _ _ h => h) ?_
      refine VC.keep [0, 3, 4, 5] rfl ?_
      refine VC.seq ?_
      refine VC.block ?_
      refine VC.region ?_
      refine VL.q (q_move rfl) (by decide) ?_
      refine VL.q (q_move rfl) (by decide) ?_
      refine VL.q (q_move rfl) (by decide) ?_
      obtain ⟨z26_6, nz26_6, hz26_6, hS⟩ := atm_s hS
      refine VL.deep z26_6.ok hz26_6 (fun _ q => q) ?_
      refine VL.q (q_ixm (s := l_0) Tryd.underlying40 gsz36 rfl rfl nz26_6 (lt_of_get nz26_6 hz26_6)) (by decide) ?_
      refine VL.q (q_el (s := l_0) gone36 rfl hz26_6 rfl) (by decide) ?_
      refine VL.q (q_move rfl) (by decide) ?_
      obtain ⟨z29_7, nz29_7, hz29_7, hS⟩ := at_s hS
      refine VL.q (q_ixm (s := z26_6) Tryd.underlying36 gsz54 rfl rfl nz29_7 (lt_of_get nz29_7 hz29_7)) (by decide) ?_
      refine VL.q (q_field gfa54_0 rfl) (by decide) ?_
      refine VL.q (q_elf (s := z26_6) gone9 rfl hz29_7 rfl) (by decide) ?_
      refine VL.q (q_build (vs := [(0, str z29_7.path)]) (cs := #[str z29_7.path, i64 0, str []]) rfl (by kernel_rfl)) (by decide) ?_
      obtain ⟨y33_8, ey33_8, hS⟩ := bd_s hS
      refine VL.callOR (rectoref14_Put_ct r3_3 (⟨z29_7.path, 0, []⟩ : Rectoref14File) ey33_8) rfl (by decide) ?_
      rintro q33_8_0 rfl
      try dsimp only
      refine VL.q (q_assign rfl) (by decide) ?_
      refine VL.to (fun _ _ h => h) ?_
      refine VC.keep [0, 3, 4, 5] rfl ?_
      refine VC.region ?_
      refine VL.q (q_move rfl) (by decide) ?_
      obtain ⟨b22, hS⟩ := gd_s hS
      refine VL.q (q_add rfl rfl b22) (by decide) ?_
      refine VL.q (q_assign rfl) (by decide) ?_
      refine VL.rnd (q33_8_0, (k5_4 + 1)) [0, 3, 4, 5] (fun _ _ h => h) (go2 hS hK2) rfl
    ·
      replace hS := it_f h20 hS
      replace hS := up2 hS hK2
      refine VC.exit_to (fun _ _ h => h) ?_
      refine VC.keep [0, 3, 4] rfl ?_
      refine VC.region ?_
      refine VL.q (q_move rfl) (by decide) ?_
      obtain ⟨b13, hS⟩ := gd_s hS
      refine VL.q (q_add rfl rfl b13) (by decide) ?_
      refine VL.q (q_assign rfl) (by decide) ?_
      refine VL.rnd (r3_3, (i4_2 + 1)) [0, 3, 4] (fun _ _ h => h) (go2 hS hK1) rfl
  ·
    replace hS := it_f h11 hS
    replace hS := up2 hS hK1
    refine VC.exit_to (fun _ _ h => h) ?_
    refine VC.seq ?_
    refine VC.region ?_
    refine VL.q (q_assign rfl) (by decide) ?_
    refine VL.to (fun _ _ h => h) ?_
    refine VC.seq ?_
    refine VC.seq ?_
    refine VC.region ?_
    refine VL.q (q_assign rfl) (by decide) ?_
    refine VL.to (fun _ _ h => h) ?_
    refine VC.block ?_
    refine VC.nilO (⟨none, 0, []⟩ : Sv Str) 9 ⟨rfl, rfl⟩ ?_
    refine VC.iter (S := Sv Str × Int) (fun sg => (sg.1.l, sg.2)) (fun sg => [(3, r3_1.val), (6, sg.1.val), (7, i64 sg.2)]) (fun sg => Mo.tt) (fun sg => Ow.star (Sv.own r3_1 54) (Ow.star (Sv.own sg.1 9) (Ow.emp))) (⟨none, 0, []⟩, 0) [3, 6, 7] hS rfl ?_
    clear hS
    rintro ⟨out6_9, i7_10⟩ m1 y1 hS hK1
    show VC _ _ _ _ _ [(3, r3_1.val), (6, out6_9.val), (7, i64 i7_10)] (Mo.and Mo.tt _) (Ow.star (Sv.own r3_1 54) (Ow.star (Sv.own out6_9 9) (Ow.emp)))
    refine VC.seq ?_
    refine VC.seq ?_
    refine VC.region ?_
    refine VL.q (q_move rfl) (by decide) ?_
    refine VL.q (q_move rfl) (by decide) ?_
    refine VL.q (q_ln (s := r3_1) Tryd.underlying36 rfl) (by decide) ?_
    refine VL.q (q_lss rfl rfl) (by decide) ?_
    refine VL.to (fun _ _ h => h) ?_
    refine VC.cond_dec rfl (fun h37 => ?_) (fun h37 => ?_)
    ·
      replace hS := it_t h37 hS
      refine VC.skip_to (fun _ _ h => h) ?_
      refine VC.seq ?_
      refine VC.block ?_
      refine VC.region ?_
      refine VL.q (q_move rfl) (by decide) ?_
      refine VL.q (q_move rfl) (by decide) ?_
      refine VL.q (q_move rfl) (by decide) ?_
      obtain ⟨z43_11, nz43_11, hz43_11, hS⟩ := at_s hS
      refine VL.q (q_ixo (s := r3_1) Tryd.underlying36 gsz54 rfl rfl nz43_11 (lt_of_get nz43_11 hz43_11)) (by decide) ?_
      refine VL.q (q_field gfa54_0 rfl) (by decide) ?_
      refine VL.q (q_elfo (s := r3_1) gone9 rfl hz43_11 rfl) (by decide) ?_
      refine VL.lit (α := Str) (xs := [.tmp 45]) (vs := [str z43_11.path]) [z43_11.path] Tryd.underlying38 glit9 (by decide) rfl rfl rfl rfl (by decide) (fun _ _ _ _ => trivial) (by decide) (fun s46_12 hs46_12 => ?_) (by decide)
      replace hS := lt_to hs46_12 hS
      obtain ⟨b47, hS⟩ := gd_s hS
      refine VL.app (s := out6_9) (r := s46_12) Tryd.underlying38 gapp9 (by decide) rfl Fo.out (ap1 b47) (ap2 b47 (by decide)) (by decide) (fun s47_14 hs47_14 => ?_)
      replace hS := lt_to hs47_14 hS
      refine VL.q (q_assign rfl) (by decide) ?_
      refine VL.to (fun _ _ h => h) ?_
      refine VC.keep [3, 6, 7] rfl ?_
      refine VC.region ?_
      refine VL.q (q_move rfl) (by decide) ?_
      obtain ⟨b39, hS⟩ := gd_s hS
      refine VL.q (q_add rfl rfl b39) (by decide) ?_
      refine VL.q (q_assign rfl) (by decide) ?_
      refine VL.rnd (s47_14, (i7_10 + 1)) [3, 6, 7] (fun _ _ h => h) (go2 hS hK1) rfl
    ·
      replace hS := it_f h37 hS
      replace hS := up2 hS hK1
      refine VC.exit_to (fun _ _ h => h) ?_
      refine VC.seq ?_
      refine VC.region ?_
      refine VL.q (q_move rfl) (by decide) ?_
      refine VL.q (q_assign rfl) (by decide) ?_
      refine VL.to (fun _ _ h => h) ?_
      cases hS
      exact VC.ret (fin1 (.inr rfl) rfl rfl out6_9 rfl rfl (by (try dsimp only); exact InM.out) (by (try dsimp only); exact EntO.out))

set_option maxHeartbeats 4000000 in
set_option maxRecDepth 100000 in
theorem rectoref14_Get_ct (r_0 : Sv Rectoref14File) (p_1 : Str) {r : Rectoref14File × Bool} (hS : Sh.rectoref14_Get r_0.l p_1 = some r) :
    Ct Tryd.prog 50 [r_0.val, str p_1] r_0.ok (Ow.emp) (X := Unit) (fun _ => .tuple #[.agg #[str r.1.path, i64 r.1.mode, str r.1.data], .bool r.2]) (fun _ => True) (fun _ => Mo.tt) (fun _ => Ow.emp) := by
  refine Ct.of Tryd.func50 rfl (by kernel_rfl) Tryd.ntmps50 (by simp) fun c => ?_
  unfold Sh.rectoref14_Get at hS
  refine VC.seq ?_
  refine VC.region ?_
  refine VL.alloc (cs := [str [], i64 0, str []]) (by kernel_rfl) (by decide) fun b4_1 => ?_
  refine VL.q (q_assign rfl) (by decide) ?_
  refine VL.to (fun _ _ h => h) ?_
  refine VC.seq ?_
  refine VC.seq ?_
  refine VC.region ?_
  refine VL.q (q_assign rfl) (by decide) ?_
  refine VL.to (fun _ _ h => h) ?_
  refine VC.block ?_
  refine VC.iter (S := Int) (fun (i6_2 : Int) => i6_2) (fun (i6_2 : Int) => [(0, r_0.val), (1, str p_1), (4, ptr b4_1 0), (6, i64 i6_2)]) (fun (i6_2 : Int) => Mo.tt) (fun (i6_2 : Int) => Ow.star (Blk b4_1 [str [], i64 0, str []] 54) (Ow.emp)) 0 [0, 1, 4, 6] hS rfl ?_
  clear hS
  rintro i6_2 m1 y1 hS hK1
  show VC _ _ _ _ _ [(0, r_0.val), (1, str p_1), (4, ptr b4_1 0), (6, i64 i6_2)] (Mo.and Mo.tt _) (Ow.star (Blk b4_1 [str [], i64 0, str []] 54) (Ow.emp))
  refine VC.seq ?_
  refine VC.seq ?_
  refine VC.region ?_
  refine VL.q (q_move rfl) (by decide) ?_
  refine VL.q (q_move rfl) (by decide) ?_
  refine VL.q (q_ln (s := r_0) Tryd.underlying36 rfl) (by decide) ?_
  refine VL.q (q_lss rfl rfl) (by decide) ?_
  refine VL.to (fun _ _ h => h) ?_
  refine VC.cond_dec rfl (fun h10 => ?_) (fun h10 => ?_)
  ·
    replace hS := it_t h10 hS
    refine VC.skip_to (fun _ _ h => h) ?_
    refine VC.seq ?_
    refine VC.block ?_
    refine VC.seq ?_
    refine VC.region ?_
    refine VL.q (q_move rfl) (by decide) ?_
    refine VL.q (q_move rfl) (by decide) ?_
    obtain ⟨z15_3, nz15_3, hz15_3, hS⟩ := at_s hS
    refine VL.q (q_ixm (s := r_0) Tryd.underlying36 gsz54 rfl rfl nz15_3 (lt_of_get nz15_3 hz15_3)) (by decide) ?_
    refine VL.q (q_field gfa54_0 rfl) (by decide) ?_
    refine VL.q (q_elf (s := r_0) gone9 rfl hz15_3 rfl) (by decide) ?_
    refine VL.q (q_move rfl) (by decide) ?_
    refine VL.q (q_seq rfl rfl) (by decide) ?_
    refine VL.to (fun _ _ h => h) ?_
    refine VC.keep [0, 1, 4, 6, 19] rfl ?_
    refine VC.cond_dec rfl (fun h19 => ?_) (fun h19 => ?_)
    ·
      replace hS := it_t h19 hS
      refine VC.seq ?_
      refine VC.region ?_
      refine VL.q (q_move rfl) (by decide) ?_
      refine VL.q (q_move rfl) (by decide) ?_
      obtain ⟨z22_4, nz22_4, hz22_4, hS⟩ := at_s hS
      refine VL.q (q_ixm (s := r_0) Tryd.underlying36 gsz54 rfl rfl nz22_4 (lt_of_get nz22_4 hz22_4)) (by decide) ?_
      refine VL.q (q_els (s := r_0) gagg54 rfl rfl hz22_4) (by decide) ?_
      refine VL.store (vc := [str z22_4.path, i64 z22_4.mode, str z22_4.data]) (cs' := [str z22_4.path, i64 z22_4.mode, str z22_4.data]) rfl rfl rfl gsz54 rfl rfl (Nat.le_of_ble_eq_true rfl) rfl ?_
      refine VL.q (q_assign rfl) (by decide) ?_
      refine VL.to (fun _ _ h => h) ?_
      replace hS := up2 hS hK1
      cases hS
      exact VC.ret (finG (vs := [.agg #[str z22_4.path, i64 z22_4.mode, str z22_4.data], .bool true]) (.inr rfl) rfl (RVs.cell gagg54 rfl rfl Rd.blk (RVs.tmp rfl (RVs.nil))) () rfl trivial (by (try dsimp only); exact InM.out) (fun _ _ => trivial))
    ·
      replace hS := it_f h19 hS
      refine VC.skip_to (fun _ _ h => h) ?_
      refine VC.region ?_
      refine VL.q (q_move rfl) (by decide) ?_
      obtain ⟨b12, hS⟩ := gd_s hS
      refine VL.q (q_add rfl rfl b12) (by decide) ?_
      refine VL.q (q_assign rfl) (by decide) ?_
      refine VL.rnd (i6_2 + 1) [0, 1, 4, 6] (fun _ _ h => h) (go2 hS hK1) rfl
  ·
    replace hS := it_f h10 hS
    replace hS := up2 hS hK1
    refine VC.exit_to (fun _ _ h => h) ?_
    refine VC.seq ?_
    refine VC.region ?_
    refine VL.q (q_build (vs := []) (cs := #[str [], i64 0, str []]) rfl (by kernel_rfl)) (by decide) ?_
    refine VL.store (vc := [str [], i64 0, str []]) (cs' := [str [], i64 0, str []]) rfl rfl rfl gsz54 rfl rfl (Nat.le_of_ble_eq_true rfl) rfl ?_
    refine VL.q (q_assign rfl) (by decide) ?_
    refine VL.to (fun _ _ h => h) ?_
    cases hS
    exact VC.ret (finG (vs := [.agg #[str [], i64 0, str []], .bool false]) (.inr rfl) rfl (RVs.cell gagg54 rfl rfl Rd.blk (RVs.tmp rfl (RVs.nil))) () rfl trivial (by (try dsimp only); exact InM.out) (fun _ _ => trivial))

set_option maxHeartbeats 4000000 in
set_option maxRecDepth 100000 in
theorem rectoref14_Like_ct (a_0 : Sv Rectoref14File) (b_1 : Sv Rectoref14File) (p_2 : Str) {r : Bool} (hS : Sh.rectoref14_Like a_0.l b_1.l p_2 = some r) :
    Ct Tryd.prog 51 [a_0.val, b_1.val, str p_2] (a_0.ok.and b_1.ok) (Ow.emp) (X := Unit) (fun _ => .bool r) (fun _ => True) (fun _ => Mo.tt) (fun _ => Ow.emp) := by
  refine Ct.of Tryd.func51 rfl (by kernel_rfl) Tryd.ntmps51 (by simp) fun c => ?_
  unfold Sh.rectoref14_Like at hS
  refine VC.seq ?_
  refine VC.region ?_
  refine VL.q (q_assign rfl) (by decide) ?_
  refine VL.to (fun _ _ h => h) ?_
  refine VC.seq ?_
  refine VC.region ?_
  refine VL.q (q_move rfl) (by decide) ?_
  refine VL.q (q_move rfl) (by decide) ?_
  obtain ⟨y14_1, ey14_1, hS⟩ := bd_s hS
  refine VL.q (q_call (rectoref14_Get_ct a_0 p_2 ey14_1) rfl (fun _ _ => rfl)) (by decide) ?_
  refine VL.q (q_move rfl) (by decide) ?_
  refine VL.q (q_extract rfl rfl) (by decide) ?_
  refine VL.q (q_extract rfl rfl) (by decide) ?_
  refine VL.alloc (cs := [str [], i64 0, str []]) (by kernel_rfl) (by decide) fun b7_2 => ?_
  refine VL.store (vc := [str y14_1.1.path, i64 y14_1.1.mode, str y14_1.1.data]) (cs' := [str y14_1.1.path, i64 y14_1.1.mode, str y14_1.1.data]) rfl rfl rfl gsz54 rfl rfl (Nat.le_of_ble_eq_true rfl) rfl ?_
  refine VL.q (q_assign rfl) (by decide) ?_
  refine VL.to (fun _ _ h => h) ?_
  refine VC.keep [1, 2, 7, 8] rfl ?_
  refine VC.seq ?_
  refine VC.region ?_
  refine VL.q (q_move rfl) (by decide) ?_
  refine VL.q (q_move rfl) (by decide) ?_
  obtain ⟨y20_3, ey20_3, hS⟩ := bd_s hS
  refine VL.q (q_call (rectoref14_Get_ct b_1 p_2 ey20_3) rfl (fun _ _ => rfl)) (by decide) ?_
  refine VL.q (q_move rfl) (by decide) ?_
  refine VL.q (q_extract rfl rfl) (by decide) ?_
  refine VL.q (q_extract rfl rfl) (by decide) ?_
  refine VL.alloc (cs := [str [], i64 0, str []]) (by kernel_rfl) (by decide) fun b9_4 => ?_
  refine VL.store (vc := [str y20_3.1.path, i64 y20_3.1.mode, str y20_3.1.data]) (cs' := [str y20_3.1.path, i64 y20_3.1.mode, str y20_3.1.data]) rfl rfl rfl gsz54 rfl rfl (Nat.le_of_ble_eq_true rfl) rfl ?_
  refine VL.q (q_assign rfl) (by decide) ?_
  refine VL.to (fun _ _ h => h) ?_
  refine VC.keep [7, 8, 9, 10] rfl ?_
  refine VC.seq ?_
  refine VC.region ?_
  refine VL.q (q_move rfl) (by decide) ?_
  refine VL.q (q_move rfl) (by decide) ?_
  refine VL.q (q_beql Tryd.underlying4 rfl rfl) (by decide) ?_
  refine VL.q (q_move rfl) (by decide) ?_
  refine VL.split_dec 26 rfl (fun h26 => ?_) (fun h26 => ?_)
  ·
    replace hS := it_t h26 hS
    refine VL.gy rfl rfl (q_fes gagg54 rfl rfl) (by decide) ?_
    refine VL.gy rfl rfl (q_fes gagg54 rfl rfl) (by decide) ?_
    refine VL.gy rfl rfl (q_steql geqg54 (geqs54 y14_1.1.path y14_1.1.mode y14_1.1.data y20_3.1.path y20_3.1.mode y20_3.1.data) rfl rfl) (by decide) ?_
    refine VL.q (q_pick_t rfl rfl) (by decide) ?_
    refine VL.q (q_assign rfl) (by decide) ?_
    refine VL.to (fun _ _ h => h) ?_
    refine VC.keep [6] rfl ?_
    cases hS
    exact VC.ret (fin1 (.inr rfl) rfl rfl () rfl trivial (fun _ _ => trivial) (fun _ _ => trivial))
  ·
    replace hS := it_f h26 hS
    refine VL.gn rfl rfl rfl (by decide) ?_
    refine VL.gn rfl rfl rfl (by decide) ?_
    refine VL.gn rfl rfl rfl (by decide) ?_
    refine VL.q (q_pick_f rfl rfl) (by decide) ?_
    refine VL.q (q_assign rfl) (by decide) ?_
    refine VL.to (fun _ _ h => h) ?_
    refine VC.keep [6] rfl ?_
    cases hS
    exact VC.ret (fin1 (.inr rfl) rfl rfl () rfl trivial (fun _ _ => trivial) (fun _ _ => trivial))

set_option maxHeartbeats 4000000 in
set_option maxRecDepth 100000 in
theorem rectoref14_What_ct (a_0 : Sv Rectoref14File) (b_1 : Sv Rectoref14File) (p_2 : Str) {r : Int} (hS : Sh.rectoref14_What a_0.l b_1.l p_2 = some r) :
    Ct Tryd.prog 18 [a_0.val, b_1.val, str p_2] (a_0.ok.and b_1.ok) (Ow.emp) (X := Unit) (fun _ => .int .u8 r) (fun _ => True) (fun _ => Mo.tt) (fun _ => Ow.emp) := by
  refine Ct.of Tryd.func18 rfl (by kernel_rfl) Tryd.ntmps18 (by simp) fun c => ?_
  unfold Sh.rectoref14_What at hS
  refine VC.seq ?_
  refine VC.region ?_
  refine VL.q (q_assign rfl) (by decide) ?_
  refine VL.to (fun _ _ h => h) ?_
  refine VC.seq ?_
  refine VC.region ?_
  refine VL.q (q_move rfl) (by decide) ?_
  refine VL.q (q_move rfl) (by decide) ?_
  obtain ⟨y14_1, ey14_1, hS⟩ := bd_s hS
  refine VL.q (q_call (rectoref14_Get_ct a_0 p_2 ey14_1) rfl (fun _ _ => rfl)) (by decide) ?_
  refine VL.q (q_move rfl) (by decide) ?_
  refine VL.q (q_extract rfl rfl) (by decide) ?_
  refine VL.q (q_extract rfl rfl) (by decide) ?_
  refine VL.alloc (cs := [str [], i64 0, str []]) (by kernel_rfl) (by decide) fun b7_2 => ?_
  refine VL.store (vc := [str y14_1.1.path, i64 y14_1.1.mode, str y14_1.1.data]) (cs' := [str y14_1.1.path, i64 y14_1.1.mode, str y14_1.1.data]) rfl rfl rfl gsz54 rfl rfl (Nat.le_of_ble_eq_true rfl) rfl ?_
  refine VL.q (q_assign rfl) (by decide) ?_
  refine VL.to (fun _ _ h => h) ?_
  refine VC.keep [0, 1, 2, 8] rfl ?_
  refine VC.seq ?_
  refine VC.region ?_
  refine VL.q (q_move rfl) (by decide) ?_
  refine VL.q (q_move rfl) (by decide) ?_
  obtain ⟨y20_3, ey20_3, hS⟩ := bd_s hS
  refine VL.q (q_call (rectoref14_Get_ct b_1 p_2 ey20_3) rfl (fun _ _ => rfl)) (by decide) ?_
  refine VL.q (q_move rfl) (by decide) ?_
  refine VL.q (q_extract rfl rfl) (by decide) ?_
  refine VL.q (q_extract rfl rfl) (by decide) ?_
  refine VL.alloc (cs := [str [], i64 0, str []]) (by kernel_rfl) (by decide) fun b9_4 => ?_
  refine VL.store (vc := [str y20_3.1.path, i64 y20_3.1.mode, str y20_3.1.data]) (cs' := [str y20_3.1.path, i64 y20_3.1.mode, str y20_3.1.data]) rfl rfl rfl gsz54 rfl rfl (Nat.le_of_ble_eq_true rfl) rfl ?_
  refine VL.q (q_assign rfl) (by decide) ?_
  refine VL.to (fun _ _ h => h) ?_
  refine VC.keep [0, 1, 2, 8, 10] rfl ?_
  refine VC.seq ?_
  refine VC.block ?_
  refine VC.seq ?_
  refine VC.region ?_
  refine VL.q (q_move rfl) (by decide) ?_
  refine VL.q (q_move rfl) (by decide) ?_
  refine VL.q (q_move rfl) (by decide) ?_
  obtain ⟨y27_5, ey27_5, hS⟩ := bd_s hS
  refine VL.q (q_call (rectoref14_Like_ct a_0 b_1 p_2 ey27_5) rfl (fun _ _ => rfl)) (by decide) ?_
  refine VL.q (q_assign rfl) (by decide) ?_
  refine VL.to (fun _ _ h => h) ?_
  refine VC.cond rfl (fun h23 => ?_) (fun h23 => ?_)
  ·
    replace hS := it_t h23 hS
    refine VC.seq ?_
    refine VC.region ?_
    refine VL.q (q_assign rfl) (by decide) ?_
    refine VL.to (fun _ _ h => h) ?_
    refine VC.keep [6] rfl ?_
    cases hS
    exact VC.ret (fin1 (.inr rfl) rfl rfl () rfl trivial (fun _ _ => trivial) (fun _ _ => trivial))
  ·
    replace hS := it_b h23 hS
    refine VC.seq ?_
    refine VC.region ?_
    refine VL.q (q_move rfl) (by decide) ?_
    refine VL.q (q_not rfl) (by decide) ?_
    refine VL.q (q_assign rfl) (by decide) ?_
    refine VL.to (fun _ _ h => h) ?_
    refine VC.keep [10, 28] rfl ?_
    refine VC.cond rfl (fun h28 => ?_) (fun h28 => ?_)
    ·
      replace hS := it_t h28 hS
      refine VC.seq ?_
      refine VC.region ?_
      refine VL.q (q_assign rfl) (by decide) ?_
      refine VL.to (fun _ _ h => h) ?_
      cases hS
      exact VC.ret (fin1 (.inr rfl) rfl rfl () rfl trivial (fun _ _ => trivial) (fun _ _ => trivial))
    ·
      replace hS := it_b h28 hS
      refine VC.seq ?_
      refine VC.region ?_
      refine VL.q (q_move rfl) (by decide) ?_
      refine VL.q (q_not rfl) (by decide) ?_
      refine VL.q (q_assign rfl) (by decide) ?_
      refine VL.to (fun _ _ h => h) ?_
      refine VC.cond rfl (fun h31 => ?_) (fun h31 => ?_)
      ·
        replace hS := it_t h31 hS
        refine VC.seq ?_
        refine VC.region ?_
        refine VL.q (q_assign rfl) (by decide) ?_
        refine VL.to (fun _ _ h => h) ?_
        cases hS
        exact VC.ret (fin1 (.inr rfl) rfl rfl () rfl trivial (fun _ _ => trivial) (fun _ _ => trivial))
      ·
        replace hS := it_b h31 hS
        refine VC.skip_to (fun _ _ h => h) ?_
        refine VC.seq ?_
        refine VC.region ?_
        refine VL.q (q_assign rfl) (by decide) ?_
        refine VL.to (fun _ _ h => h) ?_
        cases hS
        exact VC.ret (fin1 (.inr rfl) rfl rfl () rfl trivial (fun _ _ => trivial) (fun _ _ => trivial))

set_option maxHeartbeats 4000000 in
set_option maxRecDepth 100000 in
theorem rectoref14_Same_ct (a_0 : Sv Rectoref14File) (b_1 : Sv Rectoref14File) {r : Bool} (hS : Sh.rectoref14_Same a_0.l b_1.l = some r) :
    Ct Tryd.prog 20 [a_0.val, b_1.val] (a_0.ok.and b_1.ok) (Ow.emp) (X := Unit) (fun _ => .bool r) (fun _ => True) (fun _ => Mo.tt) (fun _ => Ow.emp) := by
  refine Ct.of Tryd.func20 rfl (by kernel_rfl) Tryd.ntmps20 (by simp) fun c => ?_
  unfold Sh.rectoref14_Same at hS
  refine VC.seq ?_
  refine VC.region ?_
  refine VL.q (q_assign rfl) (by decide) ?_
  refine VL.to (fun _ _ h => h) ?_
  refine VC.seq ?_
  refine VC.seq ?_
  refine VC.region ?_
  refine VL.q (q_move rfl) (by decide) ?_
  refine VL.q (q_ln (s := a_0) Tryd.underlying36 rfl) (by decide) ?_
  refine VL.q (q_move rfl) (by decide) ?_
  refine VL.q (q_ln (s := b_1) Tryd.underlying36 rfl) (by decide) ?_
  refine VL.q (q_neq rfl rfl) (by decide) ?_
  refine VL.to (fun _ _ h => h) ?_
  refine VC.cond_ndec rfl (fun h10 => ?_) (fun h10 => ?_)
  ·
    replace hS := it_f h10 hS
    refine VC.seq ?_
    refine VC.region ?_
    refine VL.q (q_assign rfl) (by decide) ?_
    refine VL.to (fun _ _ h => h) ?_
    cases hS
    exact VC.ret (fin1 (.inr rfl) rfl rfl () rfl trivial (fun _ _ => trivial) (fun _ _ => trivial))
  ·
    replace hS := it_t h10 hS
    refine VC.skip_to (fun _ _ h => h) ?_
    refine VC.seq ?_
    refine VC.seq ?_
    refine VC.region ?_
    refine VL.q (q_assign rfl) (by decide) ?_
    refine VL.to (fun _ _ h => h) ?_
    refine VC.block ?_
    refine VC.iter (S := Int) (fun (i5_1 : Int) => i5_1) (fun (i5_1 : Int) => [(0, a_0.val), (1, b_1.val), (5, i64 i5_1)]) (fun (i5_1 : Int) => Mo.tt) (fun (i5_1 : Int) => Ow.emp) 0 [0, 1, 5] hS rfl ?_
    clear hS
    rintro i5_1 m1 y1 hS hK1
    show VC _ _ _ _ _ [(0, a_0.val), (1, b_1.val), (5, i64 i5_1)] (Mo.and Mo.tt _) (Ow.emp)
    refine VC.seq ?_
    refine VC.seq ?_
    refine VC.region ?_
    refine VL.q (q_move rfl) (by decide) ?_
    refine VL.q (q_move rfl) (by decide) ?_
    refine VL.q (q_ln (s := a_0) Tryd.underlying36 rfl) (by decide) ?_
    refine VL.q (q_lss rfl rfl) (by decide) ?_
    refine VL.to (fun _ _ h => h) ?_
    refine VC.cond_dec rfl (fun h14 => ?_) (fun h14 => ?_)
    ·
      replace hS := it_t h14 hS
      refine VC.skip_to (fun _ _ h => h) ?_
      refine VC.seq ?_
      refine VC.block ?_
      refine VC.seq ?_
      refine VC.draw ((List.range 9).map fun k => (k, true)) mixed (by kernel_rfl) (by kernel_rfl) (by kernel_rfl) ?_
      refine VD.q rfl (q_move rfl) (by decide) ?_
      refine VD.q rfl (q_move rfl) (by decide) ?_
      obtain ⟨z19_2, nz19_2, hz19_2, hS⟩ := at_s hS
      refine VD.q rfl (q_ixm (s := a_0) Tryd.underlying36 gsz54 rfl rfl nz19_2 (lt_of_get nz19_2 hz19_2)) (by decide) ?_
      refine VD.q rfl (q_els (s := a_0) gagg54 rfl rfl hz19_2) (by decide) ?_
      refine VD.q rfl (q_move rfl) (by decide) ?_
      refine VD.q rfl (q_move rfl) (by decide) ?_
      obtain ⟨z23_3, nz23_3, hz23_3, hS⟩ := at_s hS
      refine VD.q rfl (q_ixm (s := b_1) Tryd.underlying36 gsz54 rfl rfl nz23_3 (lt_of_get nz23_3 hz23_3)) (by decide) ?_
      refine VD.q rfl (q_els (s := b_1) gagg54 rfl rfl hz23_3) (by decide) ?_
      refine VD.q rfl (q_stneq geqg54 (geqs54 z19_2.path z19_2.mode z19_2.data z23_3.path z23_3.mode z23_3.data) rfl rfl) (by decide) ?_
      refine VD.to (fun _ _ h => h) ?_
      refine VC.keep [0, 1, 5, 25] rfl ?_
      refine VC.cond_ndec rfl (fun h25 => ?_) (fun h25 => ?_)
      ·
        replace hS := it_f h25 hS
        refine VC.seq ?_
        refine VC.region ?_
        refine VL.q (q_assign rfl) (by decide) ?_
        refine VL.to (fun _ _ h => h) ?_
        replace hS := up2 hS hK1
        cases hS
        exact VC.ret (fin1 (.inr rfl) rfl rfl () rfl trivial (fun _ _ => trivial) (fun _ _ => trivial))
      ·
        replace hS := it_t h25 hS
        refine VC.skip_to (fun _ _ h => h) ?_
        refine VC.region ?_
        refine VL.q (q_move rfl) (by decide) ?_
        obtain ⟨b16, hS⟩ := gd_s hS
        refine VL.q (q_add rfl rfl b16) (by decide) ?_
        refine VL.q (q_assign rfl) (by decide) ?_
        refine VL.rnd (i5_1 + 1) [0, 1, 5] (fun _ _ h => h) (go2 hS hK1) rfl
    ·
      replace hS := it_f h14 hS
      replace hS := up2 hS hK1
      refine VC.exit_to (fun _ _ h => h) ?_
      refine VC.seq ?_
      refine VC.region ?_
      refine VL.q (q_assign rfl) (by decide) ?_
      refine VL.to (fun _ _ h => h) ?_
      cases hS
      exact VC.ret (fin1 (.inr rfl) rfl rfl () rfl trivial (fun _ _ => trivial) (fun _ _ => trivial))

set_option maxHeartbeats 4000000 in
set_option maxRecDepth 100000 in
theorem rectolaw1_texts_ct (a_0 : Sv Str) (b_1 : Sv Str) {r : Bool} (hS : Sh.rectolaw1_texts a_0.l b_1.l = some r) :
    Ct Tryd.prog 53 [a_0.val, b_1.val] (a_0.ok.and b_1.ok) (Ow.emp) (X := Unit) (fun _ => .bool r) (fun _ => True) (fun _ => Mo.tt) (fun _ => Ow.emp) := by
  refine Ct.of Tryd.func53 rfl (by kernel_rfl) Tryd.ntmps53 (by simp) fun c => ?_
  unfold Sh.rectolaw1_texts at hS
  refine VC.seq ?_
  refine VC.region ?_
  refine VL.q (q_assign rfl) (by decide) ?_
  refine VL.to (fun _ _ h => h) ?_
  refine VC.seq ?_
  refine VC.seq ?_
  refine VC.region ?_
  refine VL.q (q_move rfl) (by decide) ?_
  refine VL.q (q_ln (s := a_0) Tryd.underlying38 rfl) (by decide) ?_
  refine VL.q (q_move rfl) (by decide) ?_
  refine VL.q (q_ln (s := b_1) Tryd.underlying38 rfl) (by decide) ?_
  refine VL.q (q_neq rfl rfl) (by decide) ?_
  refine VL.to (fun _ _ h => h) ?_
  refine VC.cond_ndec rfl (fun h10 => ?_) (fun h10 => ?_)
  ·
    replace hS := it_f h10 hS
    refine VC.seq ?_
    refine VC.region ?_
    refine VL.q (q_assign rfl) (by decide) ?_
    refine VL.to (fun _ _ h => h) ?_
    cases hS
    exact VC.ret (fin1 (.inr rfl) rfl rfl () rfl trivial (fun _ _ => trivial) (fun _ _ => trivial))
  ·
    replace hS := it_t h10 hS
    refine VC.skip_to (fun _ _ h => h) ?_
    refine VC.seq ?_
    refine VC.seq ?_
    refine VC.region ?_
    refine VL.q (q_assign rfl) (by decide) ?_
    refine VL.to (fun _ _ h => h) ?_
    refine VC.block ?_
    refine VC.iter (S := Int) (fun (i5_1 : Int) => i5_1) (fun (i5_1 : Int) => [(0, a_0.val), (1, b_1.val), (5, i64 i5_1)]) (fun (i5_1 : Int) => Mo.tt) (fun (i5_1 : Int) => Ow.emp) 0 [0, 1, 5] hS rfl ?_
    clear hS
    rintro i5_1 m1 y1 hS hK1
    show VC _ _ _ _ _ [(0, a_0.val), (1, b_1.val), (5, i64 i5_1)] (Mo.and Mo.tt _) (Ow.emp)
    refine VC.seq ?_
    refine VC.seq ?_
    refine VC.region ?_
    refine VL.q (q_move rfl) (by decide) ?_
    refine VL.q (q_move rfl) (by decide) ?_
    refine VL.q (q_ln (s := a_0) Tryd.underlying38 rfl) (by decide) ?_
    refine VL.q (q_lss rfl rfl) (by decide) ?_
    refine VL.to (fun _ _ h => h) ?_
    refine VC.cond_dec rfl (fun h14 => ?_) (fun h14 => ?_)
    ·
      replace hS := it_t h14 hS
      refine VC.skip_to (fun _ _ h => h) ?_
      refine VC.seq ?_
      refine VC.block ?_
      refine VC.seq ?_
      refine VC.draw ((List.range 9).map fun k => (k, true)) mixed (by kernel_rfl) (by kernel_rfl) (by kernel_rfl) ?_
      refine VD.q rfl (q_move rfl) (by decide) ?_
      refine VD.q rfl (q_move rfl) (by decide) ?_
      obtain ⟨z19_2, nz19_2, hz19_2, hS⟩ := at_s hS
      refine VD.q rfl (q_ixm (s := a_0) Tryd.underlying38 gsz9 rfl rfl nz19_2 (lt_of_get nz19_2 hz19_2)) (by decide) ?_
      refine VD.q rfl (q_el (s := a_0) gone9 rfl hz19_2 rfl) (by decide) ?_
      refine VD.q rfl (q_move rfl) (by decide) ?_
      refine VD.q rfl (q_move rfl) (by decide) ?_
      obtain ⟨z23_3, nz23_3, hz23_3, hS⟩ := at_s hS
      refine VD.q rfl (q_ixm (s := b_1) Tryd.underlying38 gsz9 rfl rfl nz23_3 (lt_of_get nz23_3 hz23_3)) (by decide) ?_
      refine VD.q rfl (q_el (s := b_1) gone9 rfl hz23_3 rfl) (by decide) ?_
      refine VD.q rfl (q_sne rfl rfl) (by decide) ?_
      refine VD.to (fun _ _ h => h) ?_
      refine VC.keep [0, 1, 5, 25] rfl ?_
      refine VC.cond_ndec rfl (fun h25 => ?_) (fun h25 => ?_)
      ·
        replace hS := it_f h25 hS
        refine VC.seq ?_
        refine VC.region ?_
        refine VL.q (q_assign rfl) (by decide) ?_
        refine VL.to (fun _ _ h => h) ?_
        replace hS := up2 hS hK1
        cases hS
        exact VC.ret (fin1 (.inr rfl) rfl rfl () rfl trivial (fun _ _ => trivial) (fun _ _ => trivial))
      ·
        replace hS := it_t h25 hS
        refine VC.skip_to (fun _ _ h => h) ?_
        refine VC.region ?_
        refine VL.q (q_move rfl) (by decide) ?_
        obtain ⟨b16, hS⟩ := gd_s hS
        refine VL.q (q_add rfl rfl b16) (by decide) ?_
        refine VL.q (q_assign rfl) (by decide) ?_
        refine VL.rnd (i5_1 + 1) [0, 1, 5] (fun _ _ h => h) (go2 hS hK1) rfl
    ·
      replace hS := it_f h14 hS
      replace hS := up2 hS hK1
      refine VC.exit_to (fun _ _ h => h) ?_
      refine VC.seq ?_
      refine VC.region ?_
      refine VL.q (q_assign rfl) (by decide) ?_
      refine VL.to (fun _ _ h => h) ?_
      cases hS
      exact VC.ret (fin1 (.inr rfl) rfl rfl () rfl trivial (fun _ _ => trivial) (fun _ _ => trivial))

set_option maxHeartbeats 4000000 in
set_option maxRecDepth 100000 in
theorem rectolaw1_Texts_ct (a_0 : Sv Str) (b_1 : Sv Str) {r : Bool} (hS : Sh.rectolaw1_Texts a_0.l b_1.l = some r) :
    Ct Tryd.prog 21 [a_0.val, b_1.val] (a_0.ok.and b_1.ok) (Ow.emp) (X := Unit) (fun _ => .bool r) (fun _ => True) (fun _ => Mo.tt) (fun _ => Ow.emp) := by
  refine Ct.of Tryd.func21 rfl (by kernel_rfl) Tryd.ntmps21 (by simp) fun c => ?_
  unfold Sh.rectolaw1_Texts at hS
  refine VC.seq ?_
  refine VC.region ?_
  refine VL.q (q_assign rfl) (by decide) ?_
  refine VL.to (fun _ _ h => h) ?_
  refine VC.seq ?_
  refine VC.region ?_
  refine VL.q (q_move rfl) (by decide) ?_
  refine VL.q (q_move rfl) (by decide) ?_
  obtain ⟨y7_1, ey7_1, hS⟩ := bd_s hS
  refine VL.q (q_call (rectolaw1_texts_ct a_0 b_1 ey7_1) rfl (fun _ _ => rfl)) (by decide) ?_
  refine VL.q (q_assign rfl) (by decide) ?_
  refine VL.to (fun _ _ h => h) ?_
  cases hS
  exact VC.ret (fin1 (.inr rfl) rfl rfl () rfl trivial (fun _ _ => trivial) (fun _ _ => trivial))

set_option maxHeartbeats 4000000 in
set_option maxRecDepth 100000 in
theorem rectolaw14_RowTwo_ct (a_0 : Sv FilesFile) (b_1 : Sv FilesFile) {r : Bool} (hS : Sh.rectolaw14_RowTwo a_0.l b_1.l = some r) :
    Ct Tryd.prog 4 [a_0.val, b_1.val] (a_0.ok.and b_1.ok) (Ow.emp) (X := Unit) (fun _ => .bool r) (fun _ => True) (fun _ => Mo.tt) (fun _ => Ow.emp) := by
  refine Ct.of Tryd.func4 rfl (by kernel_rfl) Tryd.ntmps4 (by simp) fun c => ?_
  unfold Sh.rectolaw14_RowTwo at hS
  refine VC.seq ?_
  refine VC.region ?_
  refine VL.q (q_assign rfl) (by decide) ?_
  refine VL.to (fun _ _ h => h) ?_
  refine VC.seq ?_
  refine VC.seq ?_
  refine VC.region ?_
  obtain ⟨y12_1, ey12_1, hS⟩ := bd_s hS
  refine VL.q (q_call (rectolaw14_known_ct ey12_1) rfl (fun _ _ => rfl)) (by decide) ?_
  refine VL.q (q_not rfl) (by decide) ?_
  refine VL.to (fun _ _ h => h) ?_
  refine VC.cond rfl (fun h13 => ?_) (fun h13 => ?_)
  ·
    replace hS := it_t h13 hS
    refine VC.seq ?_
    refine VC.region ?_
    refine VL.q (q_assign rfl) (by decide) ?_
    refine VL.to (fun _ _ h => h) ?_
    cases hS
    exact VC.ret (fin1 (.inr rfl) rfl rfl () rfl trivial (fun _ _ => trivial) (fun _ _ => trivial))
  ·
    replace hS := it_b h13 hS
    refine VC.skip_to (fun _ _ h => h) ?_
    refine VC.seq ?_
    refine VC.cutJ (S := Bool) (fun (x31_2 : Bool) => x31_2) (fun (x31_2 : Bool) => [(0, a_0.val), (1, b_1.val), (31, .bool x31_2)]) (fun (x31_2 : Bool) => Mo.tt) (fun (x31_2 : Bool) => Ow.emp) hS ?_ ?_
    · -- up to where ways meet
      clear hS
      intro k3 hS
      refine VC.region ?_
      refine VL.q (q_move rfl) (by decide) ?_
      obtain ⟨y15_4, ey15_4, hS⟩ := bd_s hS
      refine VL.q (q_call (rectolaw14_Few_ct a_0 ey15_4) rfl (fun _ _ => rfl)) (by decide) ?_
      refine VL.q (q_not rfl) (by decide) ?_
      refine VL.q (q_move rfl) (by decide) ?_
      refine VL.split 17 rfl (fun h17 => ?_) (fun h17 => ?_)
      ·
        replace hS := it_t h17 hS
        refine VL.gn rfl rfl rfl (by decide) ?_
        refine VL.gn rfl rfl rfl (by decide) ?_
        refine VL.gn rfl rfl rfl (by decide) ?_
        refine VL.q (q_pick_t rfl rfl) (by decide) ?_
        refine VL.q (q_move rfl) (by decide) ?_
        refine VL.gn rfl rfl rfl (by decide) ?_
        refine VL.gn rfl rfl rfl (by decide) ?_
        refine VL.gn rfl rfl rfl (by decide) ?_
        refine VL.q (q_pick_t rfl rfl) (by decide) ?_
        refine VL.q (q_move rfl) (by decide) ?_
        refine VL.gn rfl rfl rfl (by decide) ?_
        refine VL.gn rfl rfl rfl (by decide) ?_
        refine VL.gn rfl rfl rfl (by decide) ?_
        refine VL.q (q_pick_t rfl rfl) (by decide) ?_
        refine VL.mt true [0, 1, 31] (fun _ _ h => h) hS rfl
      ·
        replace hS := it_b h17 hS
        refine VL.gy rfl rfl (q_move rfl) (by decide) ?_
        obtain ⟨y19_5, ey19_5, hS⟩ := bd_s hS
        refine VL.gy rfl rfl (q_call (rectolaw14_Few_ct b_1 ey19_5) rfl (fun _ _ => rfl)) (by decide) ?_
        refine VL.gy rfl rfl (q_not rfl) (by decide) ?_
        refine VL.q (q_pick_f rfl rfl) (by decide) ?_
        refine VL.q (q_move rfl) (by decide) ?_
        refine VL.split 22 rfl (fun h22 => ?_) (fun h22 => ?_)
        ·
          replace hS := it_t h22 hS
          refine VL.gn rfl rfl rfl (by decide) ?_
          refine VL.gn rfl rfl rfl (by decide) ?_
          refine VL.gn rfl rfl rfl (by decide) ?_
          refine VL.q (q_pick_t rfl rfl) (by decide) ?_
          refine VL.q (q_move rfl) (by decide) ?_
          refine VL.gn rfl rfl rfl (by decide) ?_
          refine VL.gn rfl rfl rfl (by decide) ?_
          refine VL.gn rfl rfl rfl (by decide) ?_
          refine VL.q (q_pick_t rfl rfl) (by decide) ?_
          refine VL.mt true [0, 1, 31] (fun _ _ h => h) hS rfl
        ·
          replace hS := it_b h22 hS
          refine VL.gy rfl rfl (q_move rfl) (by decide) ?_
          obtain ⟨y24_6, ey24_6, hS⟩ := bd_s hS
          refine VL.gy rfl rfl (q_call (rectolaw14_Rises_ct a_0 ey24_6) rfl (fun _ _ => rfl)) (by decide) ?_
          refine VL.gy rfl rfl (q_not rfl) (by decide) ?_
          refine VL.q (q_pick_f rfl rfl) (by decide) ?_
          refine VL.q (q_move rfl) (by decide) ?_
          refine VL.split 27 rfl (fun h27 => ?_) (fun h27 => ?_)
          ·
            replace hS := it_t h27 hS
            refine VL.gn rfl rfl rfl (by decide) ?_
            refine VL.gn rfl rfl rfl (by decide) ?_
            refine VL.gn rfl rfl rfl (by decide) ?_
            refine VL.q (q_pick_t rfl rfl) (by decide) ?_
            refine VL.mt true [0, 1, 31] (fun _ _ h => h) hS rfl
          ·
            replace hS := it_b h27 hS
            refine VL.gy rfl rfl (q_move rfl) (by decide) ?_
            obtain ⟨y29_7, ey29_7, hS⟩ := bd_s hS
            refine VL.gy rfl rfl (q_call (rectolaw14_Rises_ct b_1 ey29_7) rfl (fun _ _ => rfl)) (by decide) ?_
            refine VL.gy rfl rfl (q_not rfl) (by decide) ?_
            refine VL.q (q_pick_f rfl rfl) (by decide) ?_
            refine VL.mt (!y29_7) [0, 1, 31] (fun _ _ h => h) hS rfl
    · -- from there
      clear hS
      rintro x31_2 hS
      show VC _ _ _ _ _ [(0, a_0.val), (1, b_1.val), (31, .bool x31_2)] (Mo.and Mo.tt _) (Ow.emp)
      refine VC.cond rfl (fun h31 => ?_) (fun h31 => ?_)
      ·
        replace hS := it_t h31 hS
        refine VC.seq ?_
        refine VC.region ?_
        refine VL.q (q_assign rfl) (by decide) ?_
        refine VL.to (fun _ _ h => h) ?_
        cases hS
        exact VC.ret (fin1 (.inr rfl) rfl rfl () rfl trivial (fun _ _ => trivial) (fun _ _ => trivial))
      ·
        replace hS := it_b h31 hS
        refine VC.skip_to (fun _ _ h => h) ?_
        refine VC.seq ?_
        refine VC.region ?_
        refine VL.q (q_move rfl) (by decide) ?_
        obtain ⟨y33_8, ey33_8, hS⟩ := bd_s hS
        refine VL.callO (rectolaw14_Of_ct a_0 ey33_8) rfl (by decide) ?_
        rintro q33_8_0 rfl
        try dsimp only
        refine VL.q (q_assign rfl) (by decide) ?_
        refine VL.to (fun _ _ h => h) ?_
        refine VC.seq ?_
        refine VC.region ?_
        refine VL.q (q_move rfl) (by decide) ?_
        obtain ⟨y35_9, ey35_9, hS⟩ := bd_s hS
        refine VL.callO (rectolaw14_Of_ct b_1 ey35_9) rfl (by decide) ?_
        rintro q35_9_0 rfl
        try dsimp only
        refine VL.q (q_assign rfl) (by decide) ?_
        refine VL.to (fun _ _ h => h) ?_
        refine VC.seq ?_
        refine VC.region ?_
        refine VL.q (q_move rfl) (by decide) ?_
        refine VL.q (q_move rfl) (by decide) ?_
        refine VL.shut q33_8_0 54 (fun _ _ _ _ => trivial) ?_
        refine VL.shut q35_9_0 54 (fun _ _ _ _ => trivial) ?_
        refine VL.lit (α := Sv Rectoref14File) (xs := [.tmp 36, .tmp 37]) (vs := [q33_8_0.val, q35_9_0.val]) [q33_8_0, q35_9_0] Tryd.underlying40 glit36 (by decide) rfl rfl rfl rfl (by decide) (fun h m => List.forall_mem_cons.2 ⟨InM.out (X := q33_8_0.ok) h m, List.forall_mem_cons.2 ⟨InM.out (X := q35_9_0.ok) h m, fun _ h => by cases h⟩⟩) (by decide) (fun s38_10 hs38_10 => ?_) (by decide)
        replace hS := lt_to (congrArg (List.map Sv.l) hs38_10) hS
        obtain ⟨y39_12, ey39_12, hS⟩ := bd_s hS
        refine VL.callO (rectoref14_Paths_ct s38_10 ey39_12) rfl (by decide) ?_
        rintro q39_12_0 rfl
        try dsimp only
        refine VL.q (q_assign rfl) (by decide) ?_
        refine VL.to (fun _ _ h => h) ?_
        refine VC.keep [0, 1, 5, 6, 7] rfl ?_
        refine VC.seq ?_
        refine VC.region ?_
        refine VL.q (q_move rfl) (by decide) ?_
        refine VL.q (q_move rfl) (by decide) ?_
        obtain ⟨y42_13, ey42_13, hS⟩ := bd_s hS
        refine VL.callF (files_Diff_ct a_0 b_1 ey42_13) rfl (by decide) ?_
        rintro q42_13_0 rfl
        try dsimp only
        refine VL.q (q_assign rfl) (by decide) ?_
        refine VL.to (fun _ _ h => h) ?_
        refine VC.seq ?_
        refine VC.region ?_
        refine VL.q (q_assign rfl) (by decide) ?_
        refine VL.to (fun _ _ h => h) ?_
        refine VC.seq ?_
        refine VC.seq ?_
        refine VC.region ?_
        refine VL.q (q_assign rfl) (by decide) ?_
        refine VL.to (fun _ _ h => h) ?_
        refine VC.block ?_
        refine VC.iter (S := Int × Int) (fun sg => (sg.1, sg.2)) (fun sg => [(0, a_0.val), (1, b_1.val), (5, q33_8_0.val), (6, q35_9_0.val), (7, q39_12_0.val), (8, q42_13_0.val), (9, i64 sg.1), (10, i64 sg.2)]) (fun sg => Mo.tt) (fun sg => Ow.star (Sv.own q39_12_0 9) (Ow.emp)) (0, 0) [0, 1, 5, 6, 7, 8, 9, 10] hS rfl ?_
        clear hS
        rintro ⟨n9_14, i10_15⟩ m1 y1 hS hK1
        show VC _ _ _ _ _ [(0, a_0.val), (1, b_1.val), (5, q33_8_0.val), (6, q35_9_0.val), (7, q39_12_0.val), (8, q42_13_0.val), (9, i64 n9_14), (10, i64 i10_15)] (Mo.and Mo.tt _) (Ow.star (Sv.own q39_12_0 9) (Ow.emp))
        refine VC.seq ?_
        refine VC.seq ?_
        refine VC.region ?_
        refine VL.q (q_move rfl) (by decide) ?_
        refine VL.q (q_move rfl) (by decide) ?_
        refine VL.q (q_ln (s := q39_12_0) Tryd.underlying38 rfl) (by decide) ?_
        refine VL.q (q_lss rfl rfl) (by decide) ?_
        refine VL.to (fun _ _ h => h) ?_
        refine VC.cond_dec rfl (fun h46 => ?_) (fun h46 => ?_)
        ·
          replace hS := it_t h46 hS
          refine VC.skip_to (fun _ _ h => h) ?_
          refine VC.cutJ (S := Int) (fun (n9_16 : Int) => n9_16) (fun (n9_16 : Int) => [(0, a_0.val), (1, b_1.val), (5, q33_8_0.val), (6, q35_9_0.val), (7, q39_12_0.val), (8, q42_13_0.val), (9, i64 n9_16), (10, i64 i10_15)]) (fun (n9_16 : Int) => Mo.tt) (fun (n9_16 : Int) => Ow.star (Sv.own q39_12_0 9) (Ow.emp)) hS ?_ ?_
          · -- up to where ways meet
            clear hS
            intro k17 hS
            refine VC.block ?_
            refine VC.seq ?_
            refine VC.region ?_
            refine VL.q (q_move rfl) (by decide) ?_
            refine VL.q (q_move rfl) (by decide) ?_
            refine VL.q (q_move rfl) (by decide) ?_
            refine VL.q (q_move rfl) (by decide) ?_
            obtain ⟨z53_18, nz53_18, hz53_18, hS⟩ := at_s hS
            refine VL.q (q_ixo (s := q39_12_0) Tryd.underlying38 gsz9 rfl rfl nz53_18 (lt_of_get nz53_18 hz53_18)) (by decide) ?_
            refine VL.q (q_elo (s := q39_12_0) 9 gone9 rfl hz53_18 rfl) (by decide) ?_
            obtain ⟨y55_19, ey55_19, hS⟩ := bd_s hS
            refine VL.q (q_call (rectoref14_What_ct q33_8_0 q35_9_0 z53_18 ey55_19) rfl (fun _ _ => rfl)) (by decide) ?_
            refine VL.q (q_assign rfl) (by decide) ?_
            refine VL.to (fun _ _ h => h) ?_
            refine VC.keep [0, 1, 5, 6, 7, 8, 9, 10, 11] rfl ?_
            refine VC.seq ?_
            refine VC.seq ?_
            refine VC.region ?_
            refine VL.q (q_move rfl) (by decide) ?_
            refine VL.q (q_eql rfl rfl) (by decide) ?_
            refine VL.to (fun _ _ h => h) ?_
            refine VC.cond_dec rfl (fun h57 => ?_) (fun h57 => ?_)
            ·
              replace hS := it_t h57 hS
              refine VC.exit_mt n9_14 [0, 1, 5, 6, 7, 8, 9, 10] (fun _ _ h => h) hS rfl
            ·
              replace hS := it_f h57 hS
              refine VC.skip_to (fun _ _ h => h) ?_
              refine VC.seq ?_
              refine VC.cutJ (S := Bool) (fun (x84_20 : Bool) => x84_20) (fun (x84_20 : Bool) => [(0, a_0.val), (1, b_1.val), (5, q33_8_0.val), (6, q35_9_0.val), (7, q39_12_0.val), (8, q42_13_0.val), (9, i64 n9_14), (10, i64 i10_15), (84, .bool x84_20)]) (fun (x84_20 : Bool) => Mo.tt) (fun (x84_20 : Bool) => Ow.star (Sv.own q39_12_0 9) (Ow.emp)) hS ?_ ?_
              · -- up to where ways meet
                clear hS
                intro k21 hS
                refine VC.draw [(0, true), (1, true), (2, true), (3, true), (4, true), (5, true), (6, true), (7, true), (8, true), (9, true), (10, true), (11, true), (12, true), (13, true), (14, true), (15, true), (16, true), (17, true), (18, true), (19, true), (20, true), (21, true), (22, true), (23, false), (24, true), (25, true), (26, true)] mixed (by kernel_rfl) (by kernel_rfl) (by kernel_rfl) ?_
                refine VD.q rfl (q_move rfl) (by decide) ?_
                refine VD.q rfl (q_move rfl) (by decide) ?_
                refine VD.q rfl (q_ln (s := q42_13_0) Tryd.underlying41 rfl) (by decide) ?_
                refine VD.q rfl (q_geq rfl rfl) (by decide) ?_
                refine VD.q rfl (q_move rfl) (by decide) ?_
                refine VD.split_dec 62 rfl (fun h62 => ?_) (fun h62 => ?_)
                ·
                  replace hS := it_t h62 hS
                  refine VD.gn rfl rfl rfl rfl (by decide) ?_
                  refine VD.gn rfl rfl rfl rfl (by decide) ?_
                  refine VD.gn rfl rfl rfl rfl (by decide) ?_
                  refine VD.gn rfl rfl rfl rfl (by decide) ?_
                  refine VD.gn rfl rfl rfl rfl (by decide) ?_
                  refine VD.gn rfl rfl rfl rfl (by decide) ?_
                  refine VD.gn rfl rfl rfl rfl (by decide) ?_
                  refine VD.gn rfl rfl rfl rfl (by decide) ?_
                  refine VD.gn rfl rfl rfl rfl (by decide) ?_
                  refine VD.gn rfl rfl rfl rfl (by decide) ?_
                  refine VD.q rfl (q_pick_t rfl rfl) (by decide) ?_
                  refine VD.q rfl (q_move rfl) (by decide) ?_
                  refine VD.gn rfl rfl rfl rfl (by decide) ?_
                  refine VD.gn rfl rfl rfl rfl (by decide) ?_
                  refine VD.gn rfl rfl rfl rfl (by decide) ?_
                  refine VD.gn rfl rfl rfl rfl (by decide) ?_
                  refine VD.gn rfl rfl rfl rfl (by decide) ?_
                  refine VD.gn rfl rfl rfl rfl (by decide) ?_
                  refine VD.oneN (D' := [(21, undef), (20, undef), (19, undef), (18, undef), (17, undef)]) rfl rfl rfl (by decide) (by decide) (by kernel_rfl) (Pend.consN rfl rfl rfl rfl (Pend.consN rfl rfl rfl rfl (Pend.consN rfl rfl rfl rfl (Pend.consN rfl rfl rfl rfl (Pend.consN rfl rfl rfl rfl (Pend.nil)))))) ?_
                  refine VD.gn rfl rfl rfl rfl (by decide) ?_
                  refine VD.gn rfl rfl rfl rfl (by decide) ?_
                  refine VD.q rfl (q_pick_t rfl rfl) (by decide) ?_
                  refine VD.mt true [0, 1, 5, 6, 7, 8, 9, 10, 84] (fun _ _ h => h) hS rfl
                ·
                  replace hS := it_f h62 hS
                  refine VD.gy rfl rfl rfl (q_move rfl) (by decide) ?_
                  refine VD.gy rfl rfl rfl (q_move rfl) (by decide) ?_
                  obtain ⟨z65_22, nz65_22, hz65_22, hS⟩ := at_s hS
                  refine VD.gy rfl rfl rfl (q_ixm (s := q42_13_0) Tryd.underlying41 gsz45 rfl rfl nz65_22 (lt_of_get nz65_22 hz65_22)) (by decide) ?_
                  refine VD.gy rfl rfl rfl (q_field gfa45_0 rfl) (by decide) ?_
                  refine VD.gy rfl rfl rfl (q_elf (s := q42_13_0) gone9 rfl hz65_22 rfl) (by decide) ?_
                  refine VD.gy rfl rfl rfl (q_move rfl) (by decide) ?_
                  refine VD.gy rfl rfl rfl (q_move rfl) (by decide) ?_
                  obtain ⟨z70_23, nz70_23, hz70_23, hS⟩ := at_s hS
                  refine VD.gy rfl rfl rfl (q_ixo (s := q39_12_0) Tryd.underlying38 gsz9 rfl rfl nz70_23 (lt_of_get nz70_23 hz70_23)) (by decide) ?_
                  refine VD.gy rfl rfl rfl (q_elo (s := q39_12_0) 9 gone9 rfl hz70_23 rfl) (by decide) ?_
                  refine VD.gy rfl rfl rfl (q_sne rfl rfl) (by decide) ?_
                  refine VD.q rfl (q_pick_f rfl rfl) (by decide) ?_
                  refine VD.q rfl (q_move rfl) (by decide) ?_
                  refine VD.split_ndec 74 rfl (fun h74 => ?_) (fun h74 => ?_)
                  ·
                    replace hS := it_f h74 hS
                    refine VD.gn rfl rfl rfl rfl (by decide) ?_
                    refine VD.gn rfl rfl rfl rfl (by decide) ?_
                    refine VD.gn rfl rfl rfl rfl (by decide) ?_
                    refine VD.gn rfl rfl rfl rfl (by decide) ?_
                    refine VD.gn rfl rfl rfl rfl (by decide) ?_
                    refine VD.gn rfl rfl rfl rfl (by decide) ?_
                    refine VD.oneN (D' := [(21, undef), (20, undef), (19, undef), (18, undef), (17, undef)]) rfl rfl rfl (by decide) (by decide) (by kernel_rfl) (Pend.consN rfl rfl rfl rfl (Pend.consN rfl rfl rfl rfl (Pend.consN rfl rfl rfl rfl (Pend.consN rfl rfl rfl rfl (Pend.consN rfl rfl rfl rfl (Pend.nil)))))) ?_
                    refine VD.gn rfl rfl rfl rfl (by decide) ?_
                    refine VD.gn rfl rfl rfl rfl (by decide) ?_
                    refine VD.q rfl (q_pick_t rfl rfl) (by decide) ?_
                    refine VD.mt true [0, 1, 5, 6, 7, 8, 9, 10, 84] (fun _ _ h => h) hS rfl
                  ·
                    replace hS := it_t h74 hS
                    refine VD.gy rfl rfl rfl (q_move rfl) (by decide) ?_
                    refine VD.gy rfl rfl rfl (q_move rfl) (by decide) ?_
                    obtain ⟨z77_24, nz77_24, hz77_24, hS⟩ := at_s hS
                    refine VD.gy rfl rfl rfl (q_ixm (s := q42_13_0) Tryd.underlying41 gsz45 rfl rfl nz77_24 (lt_of_get nz77_24 hz77_24)) (by decide) ?_
                    refine VD.gy rfl rfl rfl (q_field gfa45_1 rfl) (by decide) ?_
                    refine VD.gy rfl rfl rfl (q_elf (s := q42_13_0) gone9 rfl hz77_24 rfl) (by decide) ?_
                    refine VD.gy rfl rfl rfl (q_move rfl) (by decide) ?_
                    refine VD.oneG rfl rfl rfl ?_
                    refine VL.guard rfl rfl ?_
                    obtain ⟨b81_80, hS⟩ := gd_s hS
                    obtain ⟨u81_26, eu81_26, hS⟩ := lt_s hS
                    refine VL.setv 80 rfl (congrArg (Value.int .u8) (u8_z b81_80 eu81_26)) ?_
                    refine VL.lit (α := UInt8) (xs := [.tmp 80]) (vs := [.int .u8 (u81_26.toNat : Int)]) [u81_26] Tryd.underlying23 glit5 (by decide) rfl rfl rfl rfl (by decide) (fun _ _ _ _ => trivial) (by decide) (fun s81_25 hs81_25 => ?_) (by decide)
                    replace hS := lt_to hs81_25 hS
                    refine VL.back (D' := [(21, str z77_24.what), (20, ptr q42_13_0.b (q42_13_0.o + (n9_14).toNat * Dat.sz FilesDelta + 1)), (19, ptr q42_13_0.b (q42_13_0.o + (n9_14).toNat * Dat.sz FilesDelta + 0)), (18, i64 n9_14), (17, q42_13_0.val)]) (by kernel_rfl) (Pend.consG rfl rfl rfl (q_elf (s := q42_13_0) gone9 rfl hz77_24 rfl) (Pend.consG rfl rfl rfl (q_field gfa45_1 rfl) (Pend.consG rfl rfl rfl (q_ixm (s := q42_13_0) Tryd.underlying41 gsz45 rfl rfl nz77_24 (lt_of_get nz77_24 hz77_24)) (Pend.consG rfl rfl rfl (q_move rfl) (Pend.consG rfl rfl rfl (q_move rfl) (Pend.nil)))))) ?_
                    refine VD.gy rfl rfl rfl (q_b2s (s := s81_25) Tryd.underlying23 Tryd.underlying5 Tryd.underlying9 rfl) (by decide) ?_
                    refine VD.gy rfl rfl rfl (q_sne rfl rfl) (by decide) ?_
                    refine VD.q rfl (q_pick_f rfl rfl) (by decide) ?_
                    refine VD.mt (!decide (z77_24.what = s81_25.l)) [0, 1, 5, 6, 7, 8, 9, 10, 84] (fun _ _ h => h) hS rfl
              · -- from there
                clear hS
                rintro x84_20 hS
                show VC _ _ _ _ _ [(0, a_0.val), (1, b_1.val), (5, q33_8_0.val), (6, q35_9_0.val), (7, q39_12_0.val), (8, q42_13_0.val), (9, i64 n9_14), (10, i64 i10_15), (84, .bool x84_20)] (Mo.and Mo.tt _) (Ow.star (Sv.own q39_12_0 9) (Ow.emp))
                refine VC.cond rfl (fun h84 => ?_) (fun h84 => ?_)
                ·
                  replace hS := it_t h84 hS
                  refine VC.seq ?_
                  refine VC.region ?_
                  refine VL.q (q_assign rfl) (by decide) ?_
                  refine VL.to (fun _ _ h => h) ?_
                  replace hS := up2 hS hK1
                  cases hS
                  exact VC.ret (fin1 (.inr rfl) rfl rfl () rfl trivial (fun _ _ => trivial) (fun _ _ => trivial))
                ·
                  replace hS := it_b h84 hS
                  refine VC.skip_to (fun _ _ h => h) ?_
                  refine VC.region ?_
                  refine VL.q (q_move rfl) (by decide) ?_
                  obtain ⟨b86, hS⟩ := gd_s hS
                  refine VL.q (q_add rfl rfl b86) (by decide) ?_
                  refine VL.q (q_assign rfl) (by decide) ?_
                  refine VL.mt (n9_14 + 1) [0, 1, 5, 6, 7, 8, 9, 10] (fun _ _ h => h) hS rfl
          · -- from there
            clear hS
            rintro n9_16 hS
            show VC _ _ _ _ _ [(0, a_0.val), (1, b_1.val), (5, q33_8_0.val), (6, q35_9_0.val), (7, q39_12_0.val), (8, q42_13_0.val), (9, i64 n9_16), (10, i64 i10_15)] (Mo.and Mo.tt _) (Ow.star (Sv.own q39_12_0 9) (Ow.emp))
            refine VC.region ?_
            refine VL.q (q_move rfl) (by decide) ?_
            obtain ⟨b48, hS⟩ := gd_s hS
            refine VL.q (q_add rfl rfl b48) (by decide) ?_
            refine VL.q (q_assign rfl) (by decide) ?_
            refine VL.rnd (n9_16, (i10_15 + 1)) [0, 1, 5, 6, 7, 8, 9, 10] (fun _ _ h => h) (go2 hS hK1) rfl
        ·
          replace hS := it_f h46 hS
          replace hS := up2 hS hK1
          refine VC.exit_to (fun _ _ h => h) ?_
          refine VC.seq ?_
          refine VC.region ?_
          refine VL.q (q_move rfl) (by decide) ?_
          refine VL.q (q_move rfl) (by decide) ?_
          refine VL.q (q_ln (s := q42_13_0) Tryd.underlying41 rfl) (by decide) ?_
          refine VL.q (q_eql rfl rfl) (by decide) ?_
          refine VL.q (q_move rfl) (by decide) ?_
          refine VL.split_dec 91 rfl (fun h91 => ?_) (fun h91 => ?_)
          ·
            replace hS := it_t h91 hS
            refine VL.gy rfl rfl (q_move rfl) (by decide) ?_
            refine VL.gy rfl rfl (q_move rfl) (by decide) ?_
            obtain ⟨y94_28, ey94_28, hS⟩ := bd_s hS
            refine VL.gy rfl rfl (q_call (files_Row_Same_ct a_0 b_1 ey94_28) rfl (fun _ _ => rfl)) (by decide) ?_
            refine VL.gy rfl rfl (q_move rfl) (by decide) ?_
            refine VL.gy rfl rfl (q_move rfl) (by decide) ?_
            obtain ⟨y97_29, ey97_29, hS⟩ := bd_s hS
            refine VL.gy rfl rfl (q_call (rectoref14_Same_ct q33_8_0 q35_9_0 ey97_29) rfl (fun _ _ => rfl)) (by decide) ?_
            refine VL.gy rfl rfl (q_beql Tryd.underlying4 rfl rfl) (by decide) ?_
            refine VL.q (q_pick_t rfl rfl) (by decide) ?_
            refine VL.q (q_move rfl) (by decide) ?_
            refine VL.split_dec 100 rfl (fun h100 => ?_) (fun h100 => ?_)
            ·
              replace hS := it_t h100 hS
              refine VL.gy rfl rfl (q_move rfl) (by decide) ?_
              refine VL.gy rfl rfl (q_move rfl) (by decide) ?_
              obtain ⟨y103_30, ey103_30, hS⟩ := bd_s hS
              refine VL.gy rfl rfl (q_call (files_Row_Same_ct a_0 b_1 ey103_30) rfl (fun _ _ => rfl)) (by decide) ?_
              refine VL.gy rfl rfl (q_move rfl) (by decide) ?_
              refine VL.gy rfl rfl (q_eql rfl rfl) (by decide) ?_
              refine VL.gy rfl rfl (q_beql Tryd.underlying4 rfl rfl) (by decide) ?_
              refine VL.q (q_pick_t rfl rfl) (by decide) ?_
              refine VL.q (q_move rfl) (by decide) ?_
              refine VL.split_dec 108 rfl (fun h108 => ?_) (fun h108 => ?_)
              ·
                replace hS := it_t h108 hS
                refine VL.gy rfl rfl (q_move rfl) (by decide) ?_
                refine VL.gy rfl rfl (q_move rfl) (by decide) ?_
                refine VL.guard rfl rfl ?_
                refine VL.lit (α := Sv FilesFile) (xs := [.tmp 109, .tmp 110]) (vs := [a_0.val, b_1.val]) [a_0, b_1] Tryd.underlying102 glit34 (by decide) rfl rfl rfl rfl (by decide) (fun h m => List.forall_mem_cons.2 ⟨InM.out (X := a_0.ok) h m, List.forall_mem_cons.2 ⟨InM.out (X := b_1.ok) h m, fun _ h => by cases h⟩⟩) (by decide) (fun s111_31 hs111_31 => ?_) (by decide)
                replace hS := lt_to (congrArg (List.map Sv.l) hs111_31) hS
                refine VL.guard rfl rfl ?_
                obtain ⟨y112_33, ey112_33, hS⟩ := bd_s hS
                refine VL.callF (files_Paths_ct s111_31 ey112_33) rfl (by decide) ?_
                rintro q112_33_0 rfl
                try dsimp only
                refine VL.gy rfl rfl (q_move rfl) (by decide) ?_
                obtain ⟨y114_34, ey114_34, hS⟩ := bd_s hS
                refine VL.gy rfl rfl (q_callR (rectolaw1_Texts_ct q112_33_0 q39_12_0 ey114_34) rfl (fun _ _ => rfl)) (by decide) ?_
                refine VL.q (q_pick_t rfl rfl) (by decide) ?_
                refine VL.q (q_assign rfl) (by decide) ?_
                refine VL.to (fun _ _ h => h) ?_
                refine VC.keep [4] rfl ?_
                cases hS
                exact VC.ret (fin1 (.inr rfl) rfl rfl () rfl trivial (fun _ _ => trivial) (fun _ _ => trivial))
              ·
                replace hS := it_f h108 hS
                refine VL.gn rfl rfl rfl (by decide) ?_
                refine VL.gn rfl rfl rfl (by decide) ?_
                refine VL.gn rfl rfl rfl (by decide) ?_
                refine VL.gn rfl rfl rfl (by decide) ?_
                refine VL.gn rfl rfl rfl (by decide) ?_
                refine VL.gn rfl rfl rfl (by decide) ?_
                refine VL.q (q_pick_f rfl rfl) (by decide) ?_
                refine VL.q (q_assign rfl) (by decide) ?_
                refine VL.to (fun _ _ h => h) ?_
                refine VC.keep [4] rfl ?_
                cases hS
                exact VC.ret (fin1 (.inr rfl) rfl rfl () rfl trivial (fun _ _ => trivial) (fun _ _ => trivial))
            ·
              replace hS := it_f h100 hS
              refine VL.gn rfl rfl rfl (by decide) ?_
              refine VL.gn rfl rfl rfl (by decide) ?_
              refine VL.gn rfl rfl rfl (by decide) ?_
              refine VL.gn rfl rfl rfl (by decide) ?_
              refine VL.gn rfl rfl rfl (by decide) ?_
              refine VL.gn rfl rfl rfl (by decide) ?_
              refine VL.q (q_pick_f rfl rfl) (by decide) ?_
              refine VL.q (q_move rfl) (by decide) ?_
              refine VL.gn rfl rfl rfl (by decide) ?_
              refine VL.gn rfl rfl rfl (by decide) ?_
              refine VL.gn rfl rfl rfl (by decide) ?_
              refine VL.gn rfl rfl rfl (by decide) ?_
              refine VL.gn rfl rfl rfl (by decide) ?_
              refine VL.gn rfl rfl rfl (by decide) ?_
              refine VL.q (q_pick_f rfl rfl) (by decide) ?_
              refine VL.q (q_assign rfl) (by decide) ?_
              refine VL.to (fun _ _ h => h) ?_
              refine VC.keep [4] rfl ?_
              cases hS
              exact VC.ret (fin1 (.inr rfl) rfl rfl () rfl trivial (fun _ _ => trivial) (fun _ _ => trivial))
          ·
            replace hS := it_f h91 hS
            refine VL.gn rfl rfl rfl (by decide) ?_
            refine VL.gn rfl rfl rfl (by decide) ?_
            refine VL.gn rfl rfl rfl (by decide) ?_
            refine VL.gn rfl rfl rfl (by decide) ?_
            refine VL.gn rfl rfl rfl (by decide) ?_
            refine VL.gn rfl rfl rfl (by decide) ?_
            refine VL.gn rfl rfl rfl (by decide) ?_
            refine VL.q (q_pick_f rfl rfl) (by decide) ?_
            refine VL.q (q_move rfl) (by decide) ?_
            refine VL.gn rfl rfl rfl (by decide) ?_
            refine VL.gn rfl rfl rfl (by decide) ?_
            refine VL.gn rfl rfl rfl (by decide) ?_
            refine VL.gn rfl rfl rfl (by decide) ?_
            refine VL.gn rfl rfl rfl (by decide) ?_
            refine VL.gn rfl rfl rfl (by decide) ?_
            refine VL.q (q_pick_f rfl rfl) (by decide) ?_
            refine VL.q (q_move rfl) (by decide) ?_
            refine VL.gn rfl rfl rfl (by decide) ?_
            refine VL.gn rfl rfl rfl (by decide) ?_
            refine VL.gn rfl rfl rfl (by decide) ?_
            refine VL.gn rfl rfl rfl (by decide) ?_
            refine VL.gn rfl rfl rfl (by decide) ?_
            refine VL.gn rfl rfl rfl (by decide) ?_
            refine VL.q (q_pick_f rfl rfl) (by decide) ?_
            refine VL.q (q_assign rfl) (by decide) ?_
            refine VL.to (fun _ _ h => h) ?_
            refine VC.keep [4] rfl ?_
            cases hS
            exact VC.ret (fin1 (.inr rfl) rfl rfl () rfl trivial (fun _ _ => trivial) (fun _ _ => trivial))

set_option maxHeartbeats 4000000 in
set_option maxRecDepth 100000 in
theorem rectolaw14_RowDiffs_ct (a_0 : Sv FilesFile) (b_1 : Sv FilesFile) {r : Bool} (hS : Sh.rectolaw14_RowDiffs a_0.l b_1.l = some r) :
    Ct Tryd.prog 6 [a_0.val, b_1.val] (a_0.ok.and b_1.ok) (Ow.emp) (X := Unit) (fun _ => .bool r) (fun _ => True) (fun _ => Mo.tt) (fun _ => Ow.emp) := by
  refine Ct.of Tryd.func6 rfl (by kernel_rfl) Tryd.ntmps6 (by simp) fun c => ?_
  unfold Sh.rectolaw14_RowDiffs at hS
  refine VC.seq ?_
  refine VC.region ?_
  refine VL.q (q_assign rfl) (by decide) ?_
  refine VL.to (fun _ _ h => h) ?_
  refine VC.seq ?_
  refine VC.seq ?_
  refine VC.region ?_
  obtain ⟨y10_1, ey10_1, hS⟩ := bd_s hS
  refine VL.q (q_call (rectolaw14_known_ct ey10_1) rfl (fun _ _ => rfl)) (by decide) ?_
  refine VL.q (q_not rfl) (by decide) ?_
  refine VL.to (fun _ _ h => h) ?_
  refine VC.cond rfl (fun h11 => ?_) (fun h11 => ?_)
  ·
    replace hS := it_t h11 hS
    refine VC.seq ?_
    refine VC.region ?_
    refine VL.q (q_assign rfl) (by decide) ?_
    refine VL.to (fun _ _ h => h) ?_
    cases hS
    exact VC.ret (fin1 (.inr rfl) rfl rfl () rfl trivial (fun _ _ => trivial) (fun _ _ => trivial))
  ·
    replace hS := it_b h11 hS
    refine VC.skip_to (fun _ _ h => h) ?_
    refine VC.seq ?_
    refine VC.cutJ (S := Bool) (fun (x29_2 : Bool) => x29_2) (fun (x29_2 : Bool) => [(0, a_0.val), (1, b_1.val), (29, .bool x29_2)]) (fun (x29_2 : Bool) => Mo.tt) (fun (x29_2 : Bool) => Ow.emp) hS ?_ ?_
    · -- up to where ways meet
      clear hS
      intro k3 hS
      refine VC.region ?_
      refine VL.q (q_move rfl) (by decide) ?_
      obtain ⟨y13_4, ey13_4, hS⟩ := bd_s hS
      refine VL.q (q_call (rectolaw14_Few_ct a_0 ey13_4) rfl (fun _ _ => rfl)) (by decide) ?_
      refine VL.q (q_not rfl) (by decide) ?_
      refine VL.q (q_move rfl) (by decide) ?_
      refine VL.split 15 rfl (fun h15 => ?_) (fun h15 => ?_)
      ·
        replace hS := it_t h15 hS
        refine VL.gn rfl rfl rfl (by decide) ?_
        refine VL.gn rfl rfl rfl (by decide) ?_
        refine VL.gn rfl rfl rfl (by decide) ?_
        refine VL.q (q_pick_t rfl rfl) (by decide) ?_
        refine VL.q (q_move rfl) (by decide) ?_
        refine VL.gn rfl rfl rfl (by decide) ?_
        refine VL.gn rfl rfl rfl (by decide) ?_
        refine VL.gn rfl rfl rfl (by decide) ?_
        refine VL.q (q_pick_t rfl rfl) (by decide) ?_
        refine VL.q (q_move rfl) (by decide) ?_
        refine VL.gn rfl rfl rfl (by decide) ?_
        refine VL.gn rfl rfl rfl (by decide) ?_
        refine VL.gn rfl rfl rfl (by decide) ?_
        refine VL.q (q_pick_t rfl rfl) (by decide) ?_
        refine VL.mt true [0, 1, 29] (fun _ _ h => h) hS rfl
      ·
        replace hS := it_b h15 hS
        refine VL.gy rfl rfl (q_move rfl) (by decide) ?_
        obtain ⟨y17_5, ey17_5, hS⟩ := bd_s hS
        refine VL.gy rfl rfl (q_call (rectolaw14_Few_ct b_1 ey17_5) rfl (fun _ _ => rfl)) (by decide) ?_
        refine VL.gy rfl rfl (q_not rfl) (by decide) ?_
        refine VL.q (q_pick_f rfl rfl) (by decide) ?_
        refine VL.q (q_move rfl) (by decide) ?_
        refine VL.split 20 rfl (fun h20 => ?_) (fun h20 => ?_)
        ·
          replace hS := it_t h20 hS
          refine VL.gn rfl rfl rfl (by decide) ?_
          refine VL.gn rfl rfl rfl (by decide) ?_
          refine VL.gn rfl rfl rfl (by decide) ?_
          refine VL.q (q_pick_t rfl rfl) (by decide) ?_
          refine VL.q (q_move rfl) (by decide) ?_
          refine VL.gn rfl rfl rfl (by decide) ?_
          refine VL.gn rfl rfl rfl (by decide) ?_
          refine VL.gn rfl rfl rfl (by decide) ?_
          refine VL.q (q_pick_t rfl rfl) (by decide) ?_
          refine VL.mt true [0, 1, 29] (fun _ _ h => h) hS rfl
        ·
          replace hS := it_b h20 hS
          refine VL.gy rfl rfl (q_move rfl) (by decide) ?_
          refine VL.guard rfl rfl ?_
          obtain ⟨y22_6, ey22_6, hS⟩ := bd_s hS
          refine VL.callF (files_Row_Check_ct a_0 ey22_6) rfl (by decide) ?_
          rintro q22_6_0 rfl
          try dsimp only
          refine VL.gy rfl rfl (q_erne Tryd.underlying29 rfl) (by decide) ?_
          refine VL.q (q_pick_f rfl rfl) (by decide) ?_
          refine VL.q (q_move rfl) (by decide) ?_
          refine VL.split_ndec 25 rfl (fun h25 => ?_) (fun h25 => ?_)
          ·
            replace hS := it_f h25 hS
            refine VL.gn rfl rfl rfl (by decide) ?_
            refine VL.gn rfl rfl rfl (by decide) ?_
            refine VL.gn rfl rfl rfl (by decide) ?_
            refine VL.q (q_pick_t rfl rfl) (by decide) ?_
            refine VL.mt true [0, 1, 29] (fun _ _ h => h) hS rfl
          ·
            replace hS := it_t h25 hS
            refine VL.gy rfl rfl (q_move rfl) (by decide) ?_
            refine VL.guard rfl rfl ?_
            obtain ⟨y27_7, ey27_7, hS⟩ := bd_s hS
            refine VL.callF (files_Row_Check_ct b_1 ey27_7) rfl (by decide) ?_
            rintro q27_7_0 rfl
            try dsimp only
            refine VL.gy rfl rfl (q_erne Tryd.underlying29 rfl) (by decide) ?_
            refine VL.q (q_pick_f rfl rfl) (by decide) ?_
            refine VL.mt (!decide (q27_7_0.pl.isNil = true)) [0, 1, 29] (fun _ _ h => h) hS rfl
    · -- from there
      clear hS
      rintro x29_2 hS
      show VC _ _ _ _ _ [(0, a_0.val), (1, b_1.val), (29, .bool x29_2)] (Mo.and Mo.tt _) (Ow.emp)
      refine VC.cond rfl (fun h29 => ?_) (fun h29 => ?_)
      ·
        replace hS := it_t h29 hS
        refine VC.seq ?_
        refine VC.region ?_
        refine VL.q (q_assign rfl) (by decide) ?_
        refine VL.to (fun _ _ h => h) ?_
        cases hS
        exact VC.ret (fin1 (.inr rfl) rfl rfl () rfl trivial (fun _ _ => trivial) (fun _ _ => trivial))
      ·
        replace hS := it_b h29 hS
        refine VC.skip_to (fun _ _ h => h) ?_
        refine VC.seq ?_
        refine VC.region ?_
        refine VL.q (q_move rfl) (by decide) ?_
        refine VL.q (q_move rfl) (by decide) ?_
        obtain ⟨y32_8, ey32_8, hS⟩ := bd_s hS
        refine VL.callF (files_Diff_ct a_0 b_1 ey32_8) rfl (by decide) ?_
        rintro q32_8_0 rfl
        try dsimp only
        refine VL.q (q_assign rfl) (by decide) ?_
        refine VL.to (fun _ _ h => h) ?_
        refine VC.seq ?_
        refine VC.region ?_
        refine VL.q (q_move rfl) (by decide) ?_
        refine VL.q (q_assign rfl) (by decide) ?_
        refine VL.to (fun _ _ h => h) ?_
        refine VC.seq ?_
        refine VC.seq ?_
        refine VC.region ?_
        refine VL.q (q_assign rfl) (by decide) ?_
        refine VL.to (fun _ _ h => h) ?_
        refine VC.block ?_
        refine VC.iter (S := Sv FilesFile × Int) (fun sg => (sg.1.l, sg.2)) (fun sg => [(0, a_0.val), (1, b_1.val), (5, q32_8_0.val), (6, sg.1.val), (7, i64 sg.2)]) (fun sg => sg.1.ok) (fun sg => Ow.emp) (a_0, 0) [0, 1, 5, 6, 7] hS rfl ?_
        clear hS
        rintro ⟨r6_9, i7_10⟩ m1 y1 hS hK1
        show VC _ _ _ _ _ [(0, a_0.val), (1, b_1.val), (5, q32_8_0.val), (6, r6_9.val), (7, i64 i7_10)] (Mo.and r6_9.ok _) (Ow.emp)
        refine VC.seq ?_
        refine VC.seq ?_
        refine VC.region ?_
        refine VL.q (q_move rfl) (by decide) ?_
        refine VL.q (q_move rfl) (by decide) ?_
        refine VL.q (q_ln (s := q32_8_0) Tryd.underlying41 rfl) (by decide) ?_
        refine VL.q (q_lss rfl rfl) (by decide) ?_
        refine VL.to (fun _ _ h => h) ?_
        refine VC.cond_dec rfl (fun h37 => ?_) (fun h37 => ?_)
        ·
          replace hS := it_t h37 hS
          refine VC.skip_to (fun _ _ h => h) ?_
          refine VC.cutJ (S := Sv FilesFile) (fun (r6_11 : Sv FilesFile) => r6_11.l) (fun (r6_11 : Sv FilesFile) => [(0, a_0.val), (1, b_1.val), (5, q32_8_0.val), (6, r6_11.val), (7, i64 i7_10)]) (fun (r6_11 : Sv FilesFile) => r6_11.ok) (fun (r6_11 : Sv FilesFile) => Ow.emp) hS ?_ ?_
          · -- up to where ways meet
            clear hS
            intro k12 hS
            refine VC.block ?_
            refine VC.seq ?_
            refine VC.region ?_
            refine VL.q (q_move rfl) (by decide) ?_
            refine VL.q (q_move rfl) (by decide) ?_
            refine VL.q (q_move rfl) (by decide) ?_
            obtain ⟨z44_13, nz44_13, hz44_13, hS⟩ := at_s hS
            refine VL.q (q_ixm (s := q32_8_0) Tryd.underlying41 gsz45 rfl rfl nz44_13 (lt_of_get nz44_13 hz44_13)) (by decide) ?_
            refine VL.q (q_field gfa45_0 rfl) (by decide) ?_
            refine VL.q (q_elf (s := q32_8_0) gone9 rfl hz44_13 rfl) (by decide) ?_
            obtain ⟨y47_14, ey47_14, hS⟩ := bd_s hS
            refine VL.q (q_call (files_Row_Get_ct b_1 z44_13.path ey47_14) rfl (fun _ _ => rfl)) (by decide) ?_
            refine VL.q (q_move rfl) (by decide) ?_
            refine VL.q (q_extract rfl rfl) (by decide) ?_
            refine VL.q (q_extract rfl rfl) (by decide) ?_
            refine VL.alloc (cs := [str [], i64 0, str []]) (by kernel_rfl) (by decide) fun b8_15 => ?_
            refine VL.store (vc := [str y47_14.1.path, i64 y47_14.1.mode, str y47_14.1.data]) (cs' := [str y47_14.1.path, i64 y47_14.1.mode, str y47_14.1.data]) rfl rfl rfl gsz51 rfl rfl (Nat.le_of_ble_eq_true rfl) rfl ?_
            refine VL.q (q_assign rfl) (by decide) ?_
            refine VL.to (fun _ _ h => h) ?_
            refine VC.keep [0, 1, 5, 6, 7, 8, 9] rfl ?_
            refine VC.seq ?_
            refine VC.region ?_
            refine VL.q (q_move rfl) (by decide) ?_
            refine VL.q (q_move rfl) (by decide) ?_
            obtain ⟨z52_16, nz52_16, hz52_16, hS⟩ := at_s hS
            refine VL.q (q_ixm (s := q32_8_0) Tryd.underlying41 gsz45 rfl rfl nz52_16 (lt_of_get nz52_16 hz52_16)) (by decide) ?_
            refine VL.q (q_field gfa45_1 rfl) (by decide) ?_
            refine VL.q (q_elf (s := q32_8_0) gone9 rfl hz52_16 rfl) (by decide) ?_
            refine VL.to (fun _ _ h => h) ?_
            refine VC.block ?_
            refine VC.seq ?_
            refine VC.region ?_
            refine VL.q (q_seq rfl rfl) (by decide) ?_
            refine VL.q (q_assign rfl) (by decide) ?_
            refine VL.to (fun _ _ h => h) ?_
            refine VC.cond_dec rfl (fun h60 => ?_) (fun h60 => ?_)
            ·
              replace hS := it_t h60 hS
              refine VC.seq ?_
              refine VC.seq ?_
              refine VC.region ?_
              refine VL.q (q_move rfl) (by decide) ?_
              refine VL.to (fun _ _ h => h) ?_
              refine VC.keep [0, 1, 5, 6, 7, 62] rfl ?_
              refine VC.cond rfl (fun h62 => ?_) (fun h62 => ?_)
              ·
                replace hS := it_t h62 hS
                refine VC.seq ?_
                refine VC.region ?_
                refine VL.q (q_assign rfl) (by decide) ?_
                refine VL.to (fun _ _ h => h) ?_
                replace hS := up2 hS hK1
                cases hS
                exact VC.ret (fin1 (.inr rfl) rfl rfl () rfl trivial (fun _ _ => trivial) (fun _ _ => trivial))
              ·
                replace hS := it_b h62 hS
                refine VC.skip_to (fun _ _ h => h) ?_
                refine VC.region ?_
                refine VL.q (q_move rfl) (by decide) ?_
                refine VL.q (q_move rfl) (by decide) ?_
                refine VL.q (q_move rfl) (by decide) ?_
                obtain ⟨z66_17, nz66_17, hz66_17, hS⟩ := at_s hS
                refine VL.q (q_ixm (s := q32_8_0) Tryd.underlying41 gsz45 rfl rfl nz66_17 (lt_of_get nz66_17 hz66_17)) (by decide) ?_
                refine VL.q (q_field gfa45_0 rfl) (by decide) ?_
                refine VL.q (q_elf (s := q32_8_0) gone9 rfl hz66_17 rfl) (by decide) ?_
                obtain ⟨y69_18, ey69_18, hS⟩ := bd_s hS
                refine VL.callF (files_Row_Cut_ct r6_9 z66_17.path ey69_18) rfl (by decide) ?_
                rintro q69_18_0 rfl
                try dsimp only
                refine VL.q (q_assign rfl) (by decide) ?_
                refine VL.mt q69_18_0 [0, 1, 5, 6, 7] (fun _ _ h => h) hS rfl
            ·
              replace hS := it_f h60 hS
              refine VC.seq ?_
              refine VC.seq ?_
              refine VC.region ?_
              refine VL.q (q_move rfl) (by decide) ?_
              refine VL.q (q_not rfl) (by decide) ?_
              refine VL.to (fun _ _ h => h) ?_
              refine VC.keep [0, 1, 5, 6, 7, 8, 56] rfl ?_
              refine VC.cond rfl (fun h56 => ?_) (fun h56 => ?_)
              ·
                replace hS := it_t h56 hS
                refine VC.seq ?_
                refine VC.region ?_
                refine VL.q (q_assign rfl) (by decide) ?_
                refine VL.to (fun _ _ h => h) ?_
                replace hS := up2 hS hK1
                cases hS
                exact VC.ret (fin1 (.inr rfl) rfl rfl () rfl trivial (fun _ _ => trivial) (fun _ _ => trivial))
              ·
                replace hS := it_b h56 hS
                refine VC.skip_to (fun _ _ h => h) ?_
                refine VC.region ?_
                refine VL.q (q_move rfl) (by decide) ?_
                refine VL.q (q_fes gagg51 rfl rfl) (by decide) ?_
                obtain ⟨y59_19, ey59_19, hS⟩ := bd_s hS
                refine VL.callF (files_Row_Put_ct r6_9 (⟨y47_14.1.path, y47_14.1.mode, y47_14.1.data⟩ : FilesFile) ey59_19) rfl (by decide) ?_
                rintro q59_19_0 rfl
                try dsimp only
                refine VL.q (q_assign rfl) (by decide) ?_
                refine VL.mt q59_19_0 [0, 1, 5, 6, 7] (fun _ _ h => h) hS rfl
          · -- from there
            clear hS
            rintro r6_11 hS
            show VC _ _ _ _ _ [(0, a_0.val), (1, b_1.val), (5, q32_8_0.val), (6, r6_11.val), (7, i64 i7_10)] (Mo.and r6_11.ok _) (Ow.emp)
            refine VC.region ?_
            refine VL.q (q_move rfl) (by decide) ?_
            obtain ⟨b39, hS⟩ := gd_s hS
            refine VL.q (q_add rfl rfl b39) (by decide) ?_
            refine VL.q (q_assign rfl) (by decide) ?_
            refine VL.rnd (r6_11, (i7_10 + 1)) [0, 1, 5, 6, 7] (fun _ _ h => h) (go2 hS hK1) rfl
        ·
          replace hS := it_f h37 hS
          replace hS := up2 hS hK1
          refine VC.exit_to (fun _ _ h => h) ?_
          refine VC.seq ?_
          refine VC.region ?_
          refine VL.q (q_move rfl) (by decide) ?_
          refine VL.q (q_move rfl) (by decide) ?_
          obtain ⟨y72_20, ey72_20, hS⟩ := bd_s hS
          refine VL.q (q_call (files_Row_Same_ct r6_9 b_1 ey72_20) rfl (fun _ _ => rfl)) (by decide) ?_
          refine VL.q (q_move rfl) (by decide) ?_
          refine VL.split 73 rfl (fun h73 => ?_) (fun h73 => ?_)
          ·
            replace hS := it_t h73 hS
            refine VL.gy rfl rfl (q_move rfl) (by decide) ?_
            refine VL.gy rfl rfl (q_move rfl) (by decide) ?_
            refine VL.guard rfl rfl ?_
            obtain ⟨y76_21, ey76_21, hS⟩ := bd_s hS
            refine VL.callF (files_Diff_ct a_0 a_0 ey76_21) rfl (by decide) ?_
            rintro q76_21_0 rfl
            try dsimp only
            refine VL.gy rfl rfl (q_ln (s := q76_21_0) Tryd.underlying41 rfl) (by decide) ?_
            refine VL.gy rfl rfl (q_eql rfl rfl) (by decide) ?_
            refine VL.q (q_pick_t rfl rfl) (by decide) ?_
            refine VL.q (q_move rfl) (by decide) ?_
            refine VL.split_dec 80 rfl (fun h80 => ?_) (fun h80 => ?_)
            ·
              replace hS := it_t h80 hS
              refine VL.gy rfl rfl (q_move rfl) (by decide) ?_
              refine VL.gy rfl rfl (q_move rfl) (by decide) ?_
              refine VL.guard rfl rfl ?_
              obtain ⟨y83_22, ey83_22, hS⟩ := bd_s hS
              refine VL.callF (files_Diff_ct b_1 a_0 ey83_22) rfl (by decide) ?_
              rintro q83_22_0 rfl
              try dsimp only
              refine VL.gy rfl rfl (q_ln (s := q83_22_0) Tryd.underlying41 rfl) (by decide) ?_
              refine VL.gy rfl rfl (q_move rfl) (by decide) ?_
              refine VL.gy rfl rfl (q_ln (s := q32_8_0) Tryd.underlying41 rfl) (by decide) ?_
              refine VL.gy rfl rfl (q_eql rfl rfl) (by decide) ?_
              refine VL.q (q_pick_t rfl rfl) (by decide) ?_
              refine VL.q (q_assign rfl) (by decide) ?_
              refine VL.to (fun _ _ h => h) ?_
              refine VC.keep [4] rfl ?_
              cases hS
              exact VC.ret (fin1 (.inr rfl) rfl rfl () rfl trivial (fun _ _ => trivial) (fun _ _ => trivial))
            ·
              replace hS := it_f h80 hS
              refine VL.gn rfl rfl rfl (by decide) ?_
              refine VL.gn rfl rfl rfl (by decide) ?_
              refine VL.gn rfl rfl rfl (by decide) ?_
              refine VL.gn rfl rfl rfl (by decide) ?_
              refine VL.gn rfl rfl rfl (by decide) ?_
              refine VL.gn rfl rfl rfl (by decide) ?_
              refine VL.gn rfl rfl rfl (by decide) ?_
              refine VL.q (q_pick_f rfl rfl) (by decide) ?_
              refine VL.q (q_assign rfl) (by decide) ?_
              refine VL.to (fun _ _ h => h) ?_
              refine VC.keep [4] rfl ?_
              cases hS
              exact VC.ret (fin1 (.inr rfl) rfl rfl () rfl trivial (fun _ _ => trivial) (fun _ _ => trivial))
          ·
            replace hS := it_b h73 hS
            refine VL.gn rfl rfl rfl (by decide) ?_
            refine VL.gn rfl rfl rfl (by decide) ?_
            refine VL.gn rfl rfl rfl (by decide) ?_
            refine VL.gn rfl rfl rfl (by decide) ?_
            refine VL.gn rfl rfl rfl (by decide) ?_
            refine VL.q (q_pick_f rfl rfl) (by decide) ?_
            refine VL.q (q_move rfl) (by decide) ?_
            refine VL.gn rfl rfl rfl (by decide) ?_
            refine VL.gn rfl rfl rfl (by decide) ?_
            refine VL.gn rfl rfl rfl (by decide) ?_
            refine VL.gn rfl rfl rfl (by decide) ?_
            refine VL.gn rfl rfl rfl (by decide) ?_
            refine VL.gn rfl rfl rfl (by decide) ?_
            refine VL.gn rfl rfl rfl (by decide) ?_
            refine VL.q (q_pick_f rfl rfl) (by decide) ?_
            refine VL.q (q_assign rfl) (by decide) ?_
            refine VL.to (fun _ _ h => h) ?_
            refine VC.keep [4] rfl ?_
            cases hS
            exact VC.ret (fin1 (.inr rfl) rfl rfl () rfl trivial (fun _ _ => trivial) (fun _ _ => trivial))

end Go.Proofs.YtipnlckfohhkbaaDoor
end

section
/- Plain laws on loops that compare two rows. No program in sight. -/
namespace Go.S
theorem at_get {α : Type} {l : List α} {i : Int} (h0 : 0 ≤ i) (h : i < l.length) : ∃ z, l[i.toNat]? = some z := ⟨_, List.getElem?_eq_getElem (by omega)⟩
theorem eqloop {α : Type} [DecidableEq α] (P : α → α → Prop) [∀ z w, Decidable (P z w)] (hP : ∀ z w, P z w ↔ z = w) (l r : List α) (hl : (l.length : Int) = r.length) (hb : (l.length : Int) ≤ 1000000000) (B : Int → Option (Int ⊕ Bool))
    (hB : ∀ i, B i = if i < (l.length : Int) then (at_ l i).bind (fun z => (at_ r i).bind (fun w => if P z w then gd (I64 (i + 1)) (go (i + 1)) else up (some false))) else up (some true)) : iter B 0 = some (decide (l = r)) := by
  apply Ok.eq
  refine ok_iter (I := fun i => 0 ≤ i ∧ i ≤ l.length ∧ l.take i.toNat = r.take i.toNat) (μ := fun i => (l.length - i).toNat) ?_ ⟨by omega, by omega, rfl⟩
  rintro i ⟨h0, h1, h2⟩
  rw [hB]
  simp only [ok_if, ok_up, ok_bd, ok_gd, ok_go, ok_some, ok_at]
  refine ⟨fun h => ?_, fun h => ?_⟩
  · obtain ⟨z, hz⟩ := at_get h0 h
    obtain ⟨w, hw⟩ := at_get (l := r) h0 (by omega)
    refine ⟨h0, z, hz, h0, w, hw, fun hp => ?_, fun hp => ?_⟩
    · have e := (hP z w).1 hp
      refine ⟨⟨by omega, by omega⟩, ⟨by omega, by omega, ?_⟩, by omega⟩
      rw [show (i + 1).toNat = i.toNat + 1 by omega, List.take_add_one, List.take_add_one, h2, hz, hw, e]
    · have e : z ≠ w := fun e => hp ((hP z w).2 e)
      refine (decide_eq_false fun q => e ?_).symm
      subst q
      rw [hz] at hw
      exact Option.some.inj hw
  · have e : i.toNat = l.length := by omega
    rw [e, List.take_length] at h2
    rw [show l.length = r.length by omega, List.take_length] at h2
    exact (decide_eq_true h2).symm
end Go.S
end

section
/- Plain laws on rows. No program in sight. -/
namespace Go.S
theorem get_lt {α : Type} {l : List α} {i : Nat} {x : α} (h : l[i]? = some x) : i < l.length := (List.getElem?_eq_some_iff.1 h).1
theorem at_last {α : Type} (l : List α) (z : α) : (l ++ [z])[(((l ++ [z]).length : Int) - 1).toNat]? = some z := by
  rw [show ((((l ++ [z]).length : Int) - 1).toNat) = l.length by simp]
  simp
theorem take_last {α : Type} (l : List α) (z : α) : (l ++ [z]).take (((l ++ [z]).length : Int) - 1).toNat = l := by
  rw [show ((((l ++ [z]).length : Int) - 1).toNat) = l.length by simp]
  simp
theorem set_get_true {l : List Bool} {i j : Nat} (h : l[j]? = some true) : (l.set i true)[j]? = some true := by
  rw [List.getElem?_set]
  split
  · next e => subst e; rw [if_pos (get_lt h)]
  · exact h
theorem count_set_true {l : List Bool} {i : Nat} (h : l[i]? = some false) : (l.set i true).count false + 1 = l.count false := by
  have hi := get_lt h
  rw [List.count_set hi]
  have h1 : l[i] = false := by
    rw [List.getElem?_eq_getElem hi] at h; exact Option.some.inj h
  have h2 : 0 < l.count false := List.count_pos_iff.2 (h1 ▸ List.getElem_mem hi)
  simp [h1]; omega
theorem take_snoc {α : Type} {l : List α} {i : Int} {z : α} (h0 : 0 ≤ i) (h : l[i.toNat]? = some z) : l.take (i + 1).toNat = l.take i.toNat ++ [z] := by
  rw [show (i + 1).toNat = i.toNat + 1 by omega, List.take_add_one, h]; rfl
theorem set_self {x : List Bool} {i : Nat} (h : i < x.length) : (x.set i true)[i]? = some true := by rw [List.getElem?_set, if_pos rfl, if_pos h]
theorem filter_snoc {α : Type} (p : α → Bool) (l : List α) (z : α) : (l ++ [z]).filter p = l.filter p ++ (if p z then [z] else []) := by
  rw [List.filter_append]; cases h : p z <;> simp [h]
theorem map_at {α β : Type} {f : α → β} {l : List α} {i : Int} (h0 : 0 ≤ i) (h : i < (l.map f).length) : ∃ z, l[i.toNat]? = some z ∧ (l.map f)[i.toNat]? = some (f z) := by
  rw [List.length_map] at h
  obtain ⟨z, hz⟩ := at_get h0 h
  exact ⟨z, hz, by rw [List.getElem?_map, hz]; rfl⟩
theorem part_get {α : Type} {r l : List α} {i : Nat} (hl : r.length = l.length) {j : Nat} (h : i ≤ j) : (r.take i ++ l.drop i)[j]? = l[j]? := by
  by_cases hi : i ≤ r.length
  · rw [List.getElem?_append_right (by rw [List.length_take]; omega), List.length_take, List.getElem?_drop]
    congr 1; omega
  · rw [List.getElem?_eq_none (by simp; omega), List.getElem?_eq_none (by omega)]
theorem part_set {α : Type} {r l : List α} {i : Nat} {z : α} (hl : r.length = l.length) (h : r[i]? = some z) : (r.take i ++ l.drop i).set i z = r.take (i + 1) ++ l.drop (i + 1) := by
  have hi := get_lt h
  rw [List.take_add_one, h, List.set_append_right _ _ (by rw [List.length_take]; omega), List.length_take, show i - min i r.length = 0 by omega]
  have hd : l.drop i = l[i] :: l.drop (i + 1) := List.drop_eq_getElem_cons (by omega)
  rw [hd, List.set_cons_zero]
  simp
theorem ok_jnP {S R : Type} {K : S → Option R} {F : (S → Option R) → Option R} {Q : R → Prop} (P : S → Prop) (hK : ∀ s, P s → Ok (K s) Q) (hF : ∀ K' : S → Option R, (∀ s, P s → Ok (K' s) Q) → Ok (F K') Q) : Ok (jn K F) Q := hF K hK
theorem snoc_ind {α : Type} {P : List α → Prop} (h0 : P []) (h1 : ∀ l b, P l → P (l ++ [b])) (l : List α) : P l := by
  have h : ∀ r : List α, P r.reverse := fun r => by
    induction r with
    | nil => exact h0
    | cons x r ih => rw [List.reverse_cons]; exact h1 _ _ ih
  have := h l.reverse
  rwa [List.reverse_reverse] at this
theorem byte_eq {z : UInt8} {n : Nat} (hn : n < 256) : ((z.toNat : Int) = n) ↔ z = UInt8.ofNat n := by
  constructor
  · intro h
    apply UInt8.toNat_inj.1
    simp [Nat.mod_eq_of_lt hn]; omega
  · intro h
    subst h
    simp [Nat.mod_eq_of_lt hn]
theorem mid1 {α : Type} {s : List α} {i : Int} {z : α} (h0 : 0 ≤ i) (h : s[i.toNat]? = some z) : (s.drop i.toNat).take ((i + 1).toNat - i.toNat) = [z] := by
  obtain ⟨h1, h2⟩ := List.getElem?_eq_some_iff.1 h
  rw [show (i + 1).toNat - i.toNat = 1 by omega, List.drop_eq_getElem_cons h1, h2]
  rfl
theorem drop_cons {α : Type} {s : List α} {i : Int} {z : α} (h0 : 0 ≤ i) (h : s[i.toNat]? = some z) : s.drop i.toNat = z :: s.drop (i + 1).toNat := by
  obtain ⟨h1, h2⟩ := List.getElem?_eq_some_iff.1 h
  rw [show (i + 1).toNat = i.toNat + 1 by omega, List.drop_eq_getElem_cons h1, h2]
end Go.S
end

section
/- Plain laws on loops: the first place, what is left behind. No program in sight. -/
namespace Go.S
open Go
/-- the first element that has it -/
def Fst {α : Type} (p : α → Bool) (l : List α) (r : Int) : Prop := (r = -1 ∧ ∀ z ∈ l, p z = false) ∨ ∃ k : Nat, r = k ∧ k < l.length ∧ (∀ z ∈ l.take k, p z = false) ∧ ∃ z, l[k]? = some z ∧ p z = true
theorem ixloop {α : Type} (p : α → Bool) (l : List α) (hb : l.length ≤ 1000000000) (F : α → Option Bool) (hF : ∀ z ∈ l, F z = some (p z)) (B : Int → Option (Int ⊕ Int))
    (hB : ∀ i, B i = if i < (l.length : Int) then (at_ l i).bind (fun z => (F z).bind (fun y => if y = true then up (some i) else gd (I64 (i + 1)) (go (i + 1)))) else up (some (-1))) : Ok (iter B 0) (Fst p l) := by
  refine ok_iter (I := fun i => 0 ≤ i ∧ i ≤ l.length ∧ ∀ z ∈ l.take i.toNat, p z = false) (μ := fun i => (l.length - i).toNat) ?_ ⟨by omega, by omega, by simp⟩
  rintro i ⟨h0, h1, h2⟩
  rw [hB]
  simp only [ok_if, ok_up, ok_bd, ok_some, ok_at]
  refine ⟨fun h => ?_, fun h => ?_⟩
  · obtain ⟨z, hz⟩ := at_get h0 h
    refine ⟨h0, z, hz, ?_⟩
    rw [hF z (List.mem_of_getElem? hz), ok_some]
    simp only [ok_if, ok_up, ok_gd, ok_go, ok_some]
    refine ⟨fun hp => .inr ⟨i.toNat, by omega, by omega, h2, z, hz, hp⟩, fun hp => ⟨⟨by omega, by omega⟩, ⟨by omega, by omega, fun y hy => ?_⟩, by omega⟩⟩
    rw [take_snoc h0 hz] at hy
    rcases List.mem_append.1 hy with q | q
    · exact h2 y q
    · rw [List.mem_singleton.1 q]; simpa using hp
  · rw [List.take_of_length_le (by omega)] at h2
    exact .inl ⟨rfl, h2⟩
theorem fst_any {α : Type} {p : α → Bool} {l : List α} {r : Int} (h : Fst p l r) : decide (0 ≤ r) = l.any p := by
  rcases h with ⟨rfl, h⟩ | ⟨k, rfl, hk, _, z, hz, hp⟩
  · have : l.any p = false := List.any_eq_false.2 fun z hz => by simp [h z hz]
    rw [this]; rfl
  · have : l.any p = true := List.any_eq_true.2 ⟨z, List.mem_of_getElem? hz, hp⟩
    rw [this]; simp
theorem set_take {α : Type} {s : List α} {i : Nat} {z : α} (h : i < s.length) : (s.set i z).take (i + 1) = s.take i ++ [z] := by
  rw [List.take_add_one, List.getElem?_set_self h, List.take_set_of_le (Nat.le_refl i)]; rfl
theorem delloop {α : Type} (p : α → Bool) (l : List α) (hb : l.length ≤ 1000000000) (F : α → Option Bool) (hF : ∀ z ∈ l, F z = some (p z)) (k : Nat) (hk : k < l.length) (h0 : ∀ z ∈ l.take k, p z = false) (hz : ∃ z, l[k]? = some z ∧ p z = true)
    (B : List α × Int × Int → Option ((List α × Int × Int) ⊕ List α))
    (hB : ∀ t, B t = if t.2.2 < (t.1.length : Int) then (jn (fun (u : List α × Int) => gd (I64 (t.2.2 + 1)) (go (u.1, u.2, (t.2.2 + 1)))) (fun k7 => (at_ t.1 t.2.2).bind (fun z => (F z).bind (fun y => if (!y) = true then ((at_ t.1 t.2.1).bind (fun _ => lt (t.1.set t.2.1.toNat z) (fun ys => gd (I64 (t.2.1 + 1)) (k7 (ys, (t.2.1 + 1)))))) else (k7 (t.1, t.2.1))))))
      else (up (gd ((0 : Int) ≤ t.2.1 ∧ t.2.1 ≤ (t.1.length : Int)) (lt (t.1.take t.2.1.toNat) (fun ys => some ys))))) :
    iter B (l, (k : Int), (k : Int) + 1) = some (l.filter fun z => !p z) := by
  apply Ok.eq
  refine ok_iter (I := fun t => 0 ≤ t.2.1 ∧ t.2.1 < t.2.2 ∧ t.2.2 ≤ l.length ∧ t.1.length = l.length ∧ t.1.take t.2.1.toNat = (l.take t.2.2.toNat).filter (fun z => !p z) ∧ ∀ j, t.2.2.toNat ≤ j → t.1[j]? = l[j]?) (μ := fun t => (l.length - t.2.2).toNat) ?_ ?_
  · rintro ⟨s, i, j⟩ ⟨i0, i1, i2, i3, i4, i5⟩
    dsimp only at i0 i1 i2 i3 i4 i5
    rw [hB]
    dsimp only
    simp only [ok_if, ok_up, ok_gd, ok_lt, ok_some]
    refine ⟨fun hj => ?_, fun hj => ⟨⟨i0, by omega⟩, ?_⟩⟩
    · obtain ⟨z, hz⟩ := at_get (l := l) (i := j) (by omega) (by omega)
      have hs : s[j.toNat]? = some z := by rw [i5 _ (Nat.le_refl _), hz]
      have hzl := List.mem_of_getElem? hz
      refine ok_jnP (fun u => 0 ≤ u.2 ∧ u.2 < j + 1 ∧ u.1.length = l.length ∧ u.1.take u.2.toNat = (l.take (j + 1).toNat).filter (fun z => !p z) ∧ ∀ m, (j + 1).toNat ≤ m → u.1[m]? = l[m]?) ?_ ?_
      · rintro ⟨s', i'⟩ ⟨q1, q2, q3, q4, q5⟩
        simp only [ok_gd, ok_go]
        exact ⟨⟨by omega, by omega⟩, ⟨q1, q2, by omega, q3, q4, q5⟩, by omega⟩
      · intro K hK
        rw [ok_bd, ok_at]
        refine ⟨by omega, z, hs, ?_⟩
        rw [hF z hzl, ok_bd, ok_some, ok_if]
        have hsn : (l.take (j + 1).toNat).filter (fun z => !p z) = (l.take j.toNat).filter (fun z => !p z) ++ (if (!p z) = true then [z] else []) := by rw [take_snoc (by omega) hz, filter_snoc]
        refine ⟨fun hp => ?_, fun hp => hK _ ⟨i0, by omega, i3, by rw [hsn, if_neg hp, List.append_nil]; exact i4, fun m hm => i5 m (by omega)⟩⟩
        obtain ⟨y, hy⟩ := at_get (l := s) (i := i) i0 (by omega)
        rw [ok_bd, ok_at]
        refine ⟨i0, y, hy, ?_⟩
        simp only [ok_lt, ok_gd]
        refine ⟨⟨by omega, by omega⟩, hK _ ⟨by omega, by omega, by simpa using i3, ?_, fun m hm => ?_⟩⟩
        · rw [hsn, if_pos hp, show (i + 1).toNat = i.toNat + 1 by omega, set_take (by omega), i4]
        · rw [List.getElem?_set_ne (by omega)]
          exact i5 m (by omega)
    · rw [i4, List.take_of_length_le (by omega)]
  · obtain ⟨z, hz, hp⟩ := hz
    refine ⟨by dsimp only; omega, by dsimp only; omega, by dsimp only; omega, rfl, ?_, fun j _ => rfl⟩
    dsimp only
    rw [show ((k : Int) + 1).toNat = k + 1 by omega, show ((k : Int)).toNat = k by omega, List.take_add_one, hz, Option.toList, filter_snoc]
    rw [if_neg (by simp [hp]), List.append_nil]
    exact (List.filter_eq_self.2 fun x hx => by simp [h0 x hx]).symm
/-- what an 'and' of the two does: all that has it is left out -/
theorem del_ok {α : Type} (p : α → Bool) (l : List α) (hb : l.length ≤ 1000000000) (F : α → Option Bool) (hF : ∀ z ∈ l, F z = some (p z)) (ix : Option Int) (hix : Ok ix (Fst p l))
    (B : List α × Int × Int → Option ((List α × Int × Int) ⊕ List α))
    (hB : ∀ t, B t = if t.2.2 < (t.1.length : Int) then (jn (fun (u : List α × Int) => gd (I64 (t.2.2 + 1)) (go (u.1, u.2, (t.2.2 + 1)))) (fun k7 => (at_ t.1 t.2.2).bind (fun z => (F z).bind (fun y => if (!y) = true then ((at_ t.1 t.2.1).bind (fun _ => lt (t.1.set t.2.1.toNat z) (fun ys => gd (I64 (t.2.1 + 1)) (k7 (ys, (t.2.1 + 1)))))) else (k7 (t.1, t.2.1))))))
      else (up (gd ((0 : Int) ≤ t.2.1 ∧ t.2.1 ≤ (t.1.length : Int)) (lt (t.1.take t.2.1.toNat) (fun ys => some ys))))) :
    (ix.bind fun y => if y = -1 then some l else gd (I64 (y + 1)) (iter B (l, y, y + 1))) = some (l.filter fun z => !p z) := by
  obtain ⟨r, hr, h⟩ := hix
  rw [hr, Option.bind_some]
  rcases h with ⟨rfl, h⟩ | ⟨k, rfl, hk, h0, hz⟩
  · rw [if_pos rfl]
    exact congrArg some (List.filter_eq_self.2 fun x hx => by simp [h x hx]).symm
  · rw [if_neg (by omega)]
    unfold gd
    rw [if_pos (show I64 ((k : Int) + 1) from ⟨by omega, by omega⟩)]
    exact delloop p l hb F hF k hk h0 hz B hB
end Go.S
end

section
/- Plain laws on texts: split at a byte, blanks at the ends, words. No program in sight. -/
namespace Go.S
open Go
/-- a text, split at a byte -/
def spl (c : UInt8) : List UInt8 → List (List UInt8)
  | [] => [[]]
  | x :: r => if x = c then [] :: spl c r else match spl c r with
    | [] => [[x]]
    | y :: l => (x :: y) :: l
theorem spl_ne (c : UInt8) : ∀ s, spl c s ≠ []
  | [] => by simp [spl]
  | x :: r => by
    unfold spl
    split
    · simp
    · split <;> simp
theorem spl_len (c : UInt8) : ∀ s, (spl c s).length = s.count c + 1
  | [] => by simp [spl]
  | x :: r => by
    have ih := spl_len c r
    unfold spl
    by_cases h : x = c
    · simp [h, ih]
    · rw [if_neg h, List.count_cons_of_ne (by simpa using h)]
      cases hq : spl c r with
      | nil => exact absurd hq (spl_ne c r)
      | cons y l => rw [hq] at ih; simpa using ih
theorem spl_no {c : UInt8} : ∀ {s : List UInt8}, c ∉ s → spl c s = [s]
  | [], _ => rfl
  | x :: r, h => by
    have hx : x ≠ c := fun e => h (by simp [e])
    rw [spl, if_neg hx, spl_no fun e => h (List.mem_cons_of_mem _ e)]
/-- up to the first, and from behind it -/
theorem spl_at {c : UInt8} : ∀ {a : List UInt8} (b : List UInt8), c ∉ a → spl c (a ++ c :: b) = a :: spl c b
  | [], b, _ => by simp [spl]
  | x :: a, b, h => by
    have hx : x ≠ c := fun e => h (by simp [e])
    rw [List.cons_append, spl, if_neg hx, spl_at b fun e => h (List.mem_cons_of_mem _ e)]
/-- one more byte -/
theorem spl_snoc (c x : UInt8) : ∀ s, ∃ l y, spl c s = l ++ [y] ∧ spl c (s ++ [x]) = if x = c then l ++ [y, []] else l ++ [y ++ [x]]
  | [] => ⟨[], [], rfl, by by_cases h : x = c <;> simp [spl, h]⟩
  | z :: r => by
    obtain ⟨l, y, h1, h2⟩ := spl_snoc c x r
    by_cases hz : z = c
    · refine ⟨[] :: l, y, by simp [spl, hz, h1], ?_⟩
      rw [List.cons_append, spl, if_pos hz, h2]
      split <;> rfl
    · cases l with
      | nil =>
        refine ⟨[], z :: y, by simp [spl, hz, h1], ?_⟩
        rw [List.cons_append, spl, if_neg hz, h2]
        by_cases hx : x = c <;> simp [hx]
      | cons a l =>
        refine ⟨(z :: a) :: l, y, by simp [spl, hz, h1], ?_⟩
        rw [List.cons_append, spl, if_neg hz, h2]
        by_cases hx : x = c <;> simp [hx]
theorem ix_no {c : UInt8} : ∀ {s : List UInt8}, c ∉ s → Lib.indexByte s c = -1
  | [], _ => rfl
  | x :: r, h => by
    have hx : (x == c) = false := by simpa using fun e : x = c => h (by simp [e])
    rw [Lib.indexByte, hx, ix_no fun e => h (List.mem_cons_of_mem _ e)]
    rfl
theorem ix_at {c : UInt8} : ∀ {a : List UInt8} (b : List UInt8), c ∉ a → Lib.indexByte (a ++ c :: b) c = a.length
  | [], b, _ => by simp [Lib.indexByte]
  | x :: a, b, h => by
    have hx : (x == c) = false := by simpa using fun e : x = c => h (by simp [e])
    rw [List.cons_append, Lib.indexByte, hx, ix_at b fun e => h (List.mem_cons_of_mem _ e)]
    simp
/-- a text has a byte: what is ahead of it, and behind -/
theorem split_mem {c : UInt8} {s : List UInt8} (h : c ∈ s) : ∃ a b, s = a ++ c :: b ∧ c ∉ a := by
  induction s with
  | nil => cases h
  | cons x r ih =>
    by_cases hx : x = c
    · exact ⟨[], r, by simp [hx], by simp⟩
    · rcases List.mem_cons.1 h with q | q
      · exact absurd q.symm hx
      · obtain ⟨a, b, e, hn⟩ := ih q
        exact ⟨x :: a, b, by simp [e], by simp [hn, Ne.symm hx]⟩
theorem byte_of (c : UInt8) : (c.toNat : Int).toNat.toUInt8 = c := by simp
theorem ixB_eq (s : List UInt8) (c : UInt8) : ixB s (c.toNat : Int) = Lib.indexByte s c := by unfold ixB; rw [byte_of]
theorem index_ok (s : List UInt8) (c : UInt8) : Sh.internal_stringslite_Index s [c] = some (Lib.indexByte s c) := by
  apply Ok.eq
  unfold Sh.internal_stringslite_Index
  simp only [ok_jn, ok_if, ok_bd, ok_some, ok_at]
  refine ⟨fun h => by simp at h, fun _ => ⟨fun h => ?_, fun _ => ⟨fun _ => ⟨by omega, c, rfl, ?_⟩, fun h => by simp at h⟩⟩⟩
  · have : s = [c] := by simpa using (of_decide_eq_true h).symm
    rw [this]; simp [Lib.indexByte]
  · unfold Sh.internal_stringslite_IndexByte
    rw [ixB_eq]; exact Ok.of rfl rfl
theorem sindex_ok (s : List UInt8) (c : UInt8) : Sh.strings_Index s [c] = some (Lib.indexByte s c) := by
  unfold Sh.strings_Index
  rw [index_ok]; rfl
theorem count_ok (s : List UInt8) (c : UInt8) : Sh.strings_Count s [c] = some (s.count c : Int) := by
  apply Ok.eq
  unfold Sh.strings_Count
  rw [if_neg (by simp), if_pos (by simp)]
  simp only [ok_bd, ok_at, ok_some]
  refine ⟨by omega, c, rfl, ?_⟩
  unfold cntB Lib.countByte
  rw [byte_of]
theorem split_ok {s : List UInt8} (c : UInt8) (hs : s.length ≤ 1000000000) : Sh.strings_Split s [c] = some (spl c s) := by
  apply Ok.eq
  unfold Sh.strings_Split Sh.strings_genSplit
  rw [ok_bd]
  have hc : s.count c ≤ s.length := List.count_le_length
  simp only [count_ok, ok_jn, ok_if, ok_bd, ok_gd, ok_lt, ok_some, ok_at]
  refine ⟨fun h => by omega, fun _ => ⟨fun h => by simp at h, fun _ => ⟨fun _ => ?_, fun h => by omega⟩⟩⟩
  have hm : (min ((s.count c : Int) + 1) ((s.length : Int) + 1)) = (s.count c : Int) + 1 := by omega
  rw [hm]
  refine ⟨⟨by omega, by omega⟩, ⟨by omega, by omega⟩, ⟨by omega, by omega⟩, ⟨by omega, by omega⟩, ?_⟩
  refine ok_iter (I := fun t => 0 ≤ t.2.2 ∧ t.2.2 + t.1.count c = s.count c ∧ t.2.1.length = s.count c + 1 ∧ t.2.1.take t.2.2.toNat ++ spl c t.1 = spl c s ∧ t.1.length ≤ s.length) (μ := fun t => t.1.length) ?_ ⟨by simp, by simp, by simp, by simp, by simp⟩
  rintro ⟨x, l, i⟩ ⟨i0, i1, i2, i3, i4⟩
  dsimp only at i0 i1 i2 i3 i4 ⊢
  have fin : c ∉ x → Ok (((at_ l i).bind fun z61_20 => lt (l.set i.toNat x) fun ys4_22 => gd (I64 (i + 1)) (gd ((0 : Int) ≤ (i + 1) ∧ (i + 1) ≤ (ys4_22.length : Int)) (lt (ys4_22.take (i + 1).toNat) fun y65_24 => some y65_24)))) (fun a => a = spl c s) := fun hx => by
    rw [spl_no hx] at i3
    rw [List.count_eq_zero_of_not_mem hx] at i1
    simp only [ok_bd, ok_gd, ok_lt, ok_some, ok_at]
    obtain ⟨z, hz⟩ := at_get (l := l) i0 (by omega)
    refine ⟨i0, z, hz, ⟨by omega, by omega⟩, ⟨by omega, by rw [List.length_set]; omega⟩, ?_⟩
    rw [← i3, show (i + 1).toNat = i.toNat + 1 by omega, List.take_add_one, List.getElem?_set, if_pos rfl, if_pos (get_lt hz), List.take_set_of_le (Nat.le_refl _)]
    simp
  simp only [ok_jn, ok_if, ok_up, ok_bd, ok_gd, ok_lt, ok_go, ok_some, ok_at, sindex_ok] at fin ⊢
  refine ⟨fun hi => ?_, fun hi => ?_⟩
  · have hmem : c ∈ x := List.count_pos_iff.1 (by omega)
    obtain ⟨a, b, e, ha⟩ := split_mem hmem
    subst e
    rw [ix_at b ha]
    have hl : (a ++ c :: b).length = a.length + b.length + 1 := by simp; omega
    have hcb : (a ++ c :: b).count c = b.count c + 1 := by simp [List.count_eq_zero_of_not_mem ha]
    obtain ⟨z, hz⟩ := at_get (l := l) i0 (by omega)
    refine ⟨fun h => by omega, fun _ => ⟨⟨by omega, by omega⟩, ⟨by omega, by omega⟩, i0, z, hz, ⟨by simp; omega, by simp; omega⟩, ⟨by simp; omega, by simp; omega⟩, ⟨by omega, by omega⟩, ⟨by omega, ?_, by simpa using i2, ?_, ?_⟩, ?_⟩⟩
    · simp only [List.length_cons, List.length_nil]
      rw [show ((a.length : Int) + ((0 + 1 : Nat) : Int)).toNat = a.length + 1 by omega]
      have : (a ++ c :: b).drop (a.length + 1) = b := by simp
      rw [this]; omega
    · simp only [List.length_cons, List.length_nil]
      rw [show ((a.length : Int) + ((0 + 1 : Nat) : Int)).toNat = a.length + 1 by omega, show ((a.length : Int) + 0).toNat = a.length by omega]
      have e1 : (a ++ c :: b).drop (a.length + 1) = b := by simp
      have e2 : (a ++ c :: b).take a.length = a := by simp
      rw [e1, e2, ← i3, spl_at b ha, show (i + 1).toNat = i.toNat + 1 by omega, List.take_add_one, List.getElem?_set, if_pos rfl, if_pos (get_lt hz), List.take_set_of_le (Nat.le_refl _)]
      simp
    · simp; omega
    · simp; omega
  · exact fin fun hm => by have := List.count_pos_iff.2 hm; omega
theorem spl_part (c : UInt8) : ∀ (s : List UInt8), ∀ y ∈ spl c s, y.length ≤ s.length
  | [], y, h => by simp [spl] at h; simp [h]
  | x :: r, y, h => by
    have ih := spl_part c r
    unfold spl at h
    split at h
    · rcases List.mem_cons.1 h with q | q
      · simp [q]
      · have := ih y q; simp; omega
    · split at h
      · have := List.mem_singleton.1 h; simp [this]
      · next a l hq =>
        rcases List.mem_cons.1 h with q | q
        · have := ih a (by rw [hq]; simp); simp [q]; omega
        · have := ih y (by rw [hq]; simp [q]); simp; omega
end Go.S
end

section
/- Plain laws on paths. No program in sight. -/
namespace Go.S
open Go
def goodN (n : Nat) : Bool := decide (97 ≤ n ∧ n ≤ 122) || decide (48 ≤ n ∧ n ≤ 57) || decide (n = 46) || decide (n = 45) || decide (n = 95)
theorem good_all : ∀ i : Fin 256, Sh.path_good ((i.val : Nat) : Int) = some (goodN i.val) ∧ Sh.rectoref1_good ((i.val : Nat) : Int) = some (goodN i.val) := by decide +kernel
theorem good_ok (z : UInt8) : Sh.path_good (z.toNat : Int) = some (goodN z.toNat) := (good_all ⟨z.toNat, z.toNat_lt⟩).1
theorem rgood_ok (z : UInt8) : Sh.rectoref1_good (z.toNat : Int) = some (goodN z.toNat) := (good_all ⟨z.toNat, z.toNat_lt⟩).2
/-- whether a part may be -/
def partS (s : List UInt8) : Bool := !(decide (s = []) || decide (s = [46]) || decide (s = [46, 46])) && s.all fun z => goodN z.toNat
theorem all_snoc {α : Type} (p : α → Bool) (l : List α) (z : α) : (l ++ [z]).all p = (l.all p && p z) := by simp
theorem all_false {α : Type} {p : α → Bool} {l : List α} {z : α} (hz : z ∈ l) (h : p z = false) : l.all p = false := by
  cases hq : l.all p with
  | false => rfl
  | true => rw [List.all_eq_true.1 hq z hz] at h; cases h
theorem part_ok {s : List UInt8} (hs : s.length ≤ 1000000000) : Sh.path_part s = some (partS s) := by
  apply Ok.eq
  unfold Sh.path_part partS
  refine ok_jnP (fun q => q = (decide (s = []) || decide (s = [46]) || decide (s = [46, 46]))) ?_ ?_
  · rintro q rfl
    generalize (decide (s = []) || decide (s = [46]) || decide (s = [46, 46])) = q
    simp only [ok_if, ok_some, ok_gd, ok_lt]
    refine ⟨fun h => by rw [h]; rfl, fun h => ⟨by omega, ?_⟩⟩
    have hq : q = false := by simpa using h
    subst hq
    rw [Bool.not_false, Bool.true_and]
    refine ok_iter (I := fun i => 0 ≤ i ∧ i ≤ s.length ∧ (s.take i.toNat).all (fun z => goodN z.toNat) = true) (μ := fun i => (s.length - i).toNat) ?_ ⟨by omega, by omega, by simp⟩
    rintro i ⟨i0, i1, i2⟩
    simp only [ok_if, ok_up, ok_bd, ok_gd, ok_go, ok_some, ok_at, good_ok]
    refine ⟨fun hi => ?_, fun hi => ?_⟩
    · obtain ⟨z, hz⟩ := at_get (l := s) i0 hi
      refine ⟨i0, z, hz, fun hb => ?_, fun hg => ⟨⟨by omega, by omega⟩, ⟨by omega, by omega, ?_⟩, by omega⟩⟩
      · exact (all_false (p := fun z : UInt8 => goodN z.toNat) (List.mem_of_getElem? hz) (by simpa using hb)).symm
      · rw [take_snoc i0 hz, all_snoc, i2]; simpa using hg
    · rw [← i2, show i.toNat = s.length by omega, List.take_length]
  · intro K hK
    simp only [ok_if]
    refine ⟨fun h => hK _ (by simp [h]), fun h1 => ⟨fun h => hK _ (by simp [h]), fun h2 => hK _ (by simp [h1, h2])⟩⟩
/-- what is wrong with a path -/
def checkP (p : List UInt8) : Int := if 64 < p.length then 4 else if (spl 47 p).all partS then 0 else 5
theorem pcheck_ok (p : List UInt8) : Sh.path_Check p = some (checkP p) := by
  apply Ok.eq
  unfold Sh.path_Check checkP
  simp only [ok_if, ok_some]
  refine ⟨fun h => by rw [if_pos (by omega)], fun h => ?_⟩
  rw [if_neg (by omega), split_ok 47 (by omega), Option.bind_some]
  have hpart := spl_part 47 p
  have hlen := spl_len 47 p
  have hcnt : p.count 47 ≤ p.length := List.count_le_length
  generalize spl 47 p = L at *
  refine ok_iter (I := fun i => 0 ≤ i ∧ i ≤ L.length ∧ (L.take i.toNat).all partS = true) (μ := fun i => (L.length - i).toNat) ?_ ⟨by omega, by omega, by simp⟩
  rintro i ⟨i0, i1, i2⟩
  simp only [ok_if, ok_up, ok_bd, ok_gd, ok_go, ok_some, ok_at]
  refine ⟨fun hi => ?_, fun hi => ?_⟩
  · obtain ⟨z, hz⟩ := at_get (l := L) i0 hi
    have := hpart z (List.mem_of_getElem? hz)
    refine ⟨i0, z, hz, Ok.of (part_ok (by omega)) ⟨fun hb => ?_, fun hg => ⟨⟨by omega, by omega⟩, ⟨by omega, by omega, ?_⟩, by omega⟩⟩⟩
    · rw [all_false (List.mem_of_getElem? hz) (by simpa using hb)]; rfl
    · rw [take_snoc i0 hz, all_snoc, i2]; simpa using hg
  · rw [show i.toNat = L.length by omega, List.take_length] at i2
    rw [i2]; rfl
theorem parts_ok {s : List UInt8} (hne : s ≠ []) (hs : s.length ≤ 1000000) : Sh.rectoref1_Parts s = some (spl 47 s) := by
  apply Ok.eq
  unfold Sh.rectoref1_Parts
  rw [if_neg hne, ok_lt]
  refine ok_iter (I := fun t => 0 ≤ t.2 ∧ t.2 ≤ s.length ∧ t.1 = spl 47 (s.take t.2.toNat)) (μ := fun t => (s.length - t.2).toNat) ?_ ⟨by simp, by simp, by simp [spl]⟩
  rintro ⟨o, i⟩ ⟨i0, i1, i2⟩
  dsimp only at i0 i1 i2 ⊢
  simp only [ok_jn, ok_if, ok_up, ok_bd, ok_gd, ok_lt, ok_go, ok_some, ok_at]
  refine ⟨fun hi => ?_, fun hi => ?_⟩
  · obtain ⟨z, hz⟩ := at_get (l := s) i0 hi
    obtain ⟨l, y, h1, h2⟩ := spl_snoc 47 z (s.take i.toNat)
    rw [← take_snoc i0 hz] at h2
    rw [← i2] at h1
    have hlen : o.length ≤ s.length + 1 := by
      rw [i2, spl_len]
      have : (s.take i.toNat).count 47 ≤ (s.take i.toNat).length := List.count_le_length
      rw [List.length_take] at this; omega
    subst h1
    have hl1 : (l ++ [y]).length = l.length + 1 := by simp
    refine ⟨i0, z, hz, fun hb => ?_, fun hb => ?_⟩
    · have hz10 : z = 47 := (byte_eq (n := 47) (by decide)).1 hb
      refine ⟨by simp; omega, ⟨by omega, by omega⟩, ⟨by omega, by omega, ?_⟩, by omega⟩
      rw [h2, if_pos hz10]; simp
    · have hz10 : ¬ z = 47 := fun e => hb ((byte_eq (n := 47) (by decide)).2 e)
      have hyl : y.length ≤ s.length := by
        have := spl_part 47 (s.take i.toNat) y (by rw [← i2]; simp)
        rw [List.length_take] at this; omega
      rw [at_last]
      refine ⟨⟨by omega, by omega⟩, ⟨by omega, by omega⟩, by omega, y, rfl, ⟨by omega, by omega⟩, ⟨i0, by omega, by omega⟩, ?_⟩
      rw [mid1 i0 hz]
      refine ⟨by simp; omega, by omega, y, rfl, ⟨by omega, by omega⟩, ⟨by omega, by omega, ?_⟩, by omega⟩
      rw [h2, if_neg hz10, show ((((l ++ [y]).length : Int) - 1).toNat) = l.length by simp]
      simp
  · rw [i2, show i.toNat = s.length by omega, List.take_length]
theorem rpcheck_ok (p : List UInt8) : Sh.rectoref1_Check p = some (checkP p) := by
  apply Ok.eq
  unfold Sh.rectoref1_Check checkP
  simp only [ok_if, ok_some]
  refine ⟨fun h => by rw [if_pos (by omega)], fun h => ?_⟩
  rw [if_neg (by omega)]
  by_cases hne : p = []
  · subst hne; exact Ok.of (a := (5 : Int)) rfl rfl
  rw [parts_ok hne (by omega), Option.bind_some]
  have hpart := spl_part 47 p
  have hlen := spl_len 47 p
  have hcnt : p.count 47 ≤ p.length := List.count_le_length
  generalize spl 47 p = L at *
  rw [if_neg (by omega)]
  refine ok_iter (I := fun i => 0 ≤ i ∧ i ≤ L.length ∧ (L.take i.toNat).all partS = true) (μ := fun i => (L.length - i).toNat) ?_ ⟨by omega, by omega, by simp⟩
  rintro i ⟨i0, i1, i2⟩
  simp only [ok_if, ok_up, ok_some]
  refine ⟨fun hi => ?_, fun hi => ?_⟩
  · obtain ⟨s, hs⟩ := at_get (l := L) i0 hi
    have hsl := hpart s (List.mem_of_getElem? hs)
    refine ok_jnP (fun _ => partS s = true) ?_ ?_
    · intro _ hg
      simp only [ok_gd, ok_go]
      refine ⟨⟨by omega, by omega⟩, ⟨by omega, by omega, ?_⟩, by omega⟩
      rw [take_snoc i0 hs, all_snoc, i2, hg]; rfl
    · intro K hK
      have bad : partS s = false → (5 : Int) = if L.all partS = true then 0 else 5 := fun q => by rw [all_false (List.mem_of_getElem? hs) q]; rfl
      refine ok_jnP (fun q => q = (decide (s = []) || decide (s = [46]) || decide (s = [46, 46]))) ?_ ?_
      · intro q hq
        simp only [ok_if, ok_up, ok_some]
        refine ⟨fun h => bad (by unfold partS; rw [← hq, h]; rfl), fun h => ?_⟩
        have hq' : q = false := by simpa using h
        have hP : partS s = s.all fun z => goodN z.toNat := by unfold partS; rw [← hq, hq']; simp
        refine ok_iter (I := fun k => 0 ≤ k ∧ k ≤ s.length ∧ (s.take k.toNat).all (fun z => goodN z.toNat) = true) (μ := fun k => (s.length - k).toNat) ?_ ⟨by omega, by omega, by simp⟩
        rintro k ⟨k0, k1, k2⟩
        simp only [ok_if, ok_up, ok_bd, ok_gd, ok_go, ok_some, ok_at, rgood_ok]
        refine ⟨i0, s, hs, fun hk => ?_, fun hk => hK () ?_⟩
        · obtain ⟨z, hz⟩ := at_get (l := s) k0 hk
          refine ⟨i0, s, hs, k0, z, hz, fun hb => bad ?_, fun hg => ⟨⟨by omega, by omega⟩, ⟨by omega, by omega, ?_⟩, by omega⟩⟩
          · rw [hP]; exact all_false (p := fun z : UInt8 => goodN z.toNat) (List.mem_of_getElem? hz) (by simpa using hb)
          · rw [take_snoc k0 hz, all_snoc, k2]; simpa using hg
        · rw [hP, ← k2, show k.toNat = s.length by omega, List.take_length]
      · intro K2 hK2
        simp only [ok_if, ok_bd, ok_at]
        refine ⟨i0, s, hs, fun h => hK2 _ (by simp [h]), fun h1 => ⟨i0, s, hs, fun h => hK2 _ (by simp [h]), fun h2 => ⟨i0, s, hs, hK2 _ (by simp [h1, h2])⟩⟩⟩
  · rw [show i.toNat = L.length by omega, List.take_length] at i2
    rw [i2]; rfl
/-- whether a path lies in a folder -/
def underS (p d : List UInt8) : Bool := if d = [] then !decide (p = []) else decide (d.length + 1 < p.length ∧ p.take (d.length + 1) = d ++ [47])
theorem under_ok {p d : List UInt8} (hd : d.length ≤ 1000000000) : Sh.path_Under p d = some (underS p d) := by
  apply Ok.eq
  unfold Sh.path_Under underS Sh.strings_HasPrefix Sh.internal_stringslite_HasPrefix
  simp only [ok_if, ok_some, ok_gd, ok_lt, ok_bd]
  refine ⟨fun h => by rw [if_pos h], fun h => ⟨⟨by omega, by omega⟩, fun hl => ⟨by simp; omega, ?_⟩, fun hl => ?_⟩⟩
  · rw [if_neg h]
    refine ⟨fun hp => ⟨⟨by omega, by simpa using hp⟩, ?_⟩, fun hp => ?_⟩
    · simp only [List.length_append, List.length_singleton]
      rw [show (((d.length + 1 : Nat)) : Int).toNat = d.length + 1 by omega]
      exact decide_eq_decide.2 ⟨fun q => ⟨by omega, q⟩, fun q => q.2⟩
    · simp at hp; omega
  · rw [if_neg h]
    symm; exact decide_eq_false (by omega)
theorem runder_ok {p d : List UInt8} (hd : d.length ≤ 1000000000) : Sh.rectoref1_Under p d = some (underS p d) := by
  apply Ok.eq
  unfold Sh.rectoref1_Under underS
  simp only [ok_if, ok_some, ok_gd, ok_lt, ok_bd, ok_at]
  refine ⟨fun h => by rw [if_pos h], fun h => ⟨⟨by omega, by omega⟩, fun hl => ⟨⟨by omega, by omega⟩, fun ht => ?_, fun ht => ?_⟩, fun hl => ?_⟩⟩
  · rw [if_neg h]
    rw [Int.toNat_natCast] at ht
    obtain ⟨z, hz⟩ := at_get (l := p) (i := d.length) (by omega) (by omega)
    refine ⟨by omega, z, hz, ?_⟩
    rw [Int.toNat_natCast] at hz
    rw [List.take_add_one, ht, hz]
    refine decide_eq_decide.2 ⟨fun q => ⟨by omega, ?_⟩, fun q => ?_⟩
    · have : z = 47 := (byte_eq (n := 47) (by decide)).1 q
      rw [this]; rfl
    · have := q.2
      simp at this
      rw [this]; rfl
  · rw [if_neg h]
    rw [Int.toNat_natCast] at ht
    symm
    refine decide_eq_false fun q => ht ?_
    have := congrArg (List.take d.length) q.2
    rw [List.take_take, Nat.min_eq_left (by omega), List.take_left] at this
    exact this
  · rw [if_neg h]
    symm; exact decide_eq_false (by omega)
def clashS (a b : List UInt8) : Bool := decide (a ≠ []) && decide (b ≠ []) && (underS a b || underS b a)
theorem clash_ok {a b : List UInt8} (ha : a.length ≤ 1000000000) (hb : b.length ≤ 1000000000) : Sh.path_Clash a b = some (clashS a b) := by
  apply Ok.eq
  unfold Sh.path_Clash clashS
  simp only [ok_if, ok_some, ok_bd, under_ok ha, under_ok hb]
  refine ⟨fun h => by simp [h], fun h => ⟨fun h2 => by simp [h2], fun h2 => ⟨fun h3 => by simp [h, h2, h3], fun h3 => by simp [h, h2, h3]⟩⟩⟩
theorem rclash_ok {a b : List UInt8} (ha : a.length ≤ 1000000000) (hb : b.length ≤ 1000000000) : Sh.rectoref1_Clash a b = some (clashS a b) := by
  apply Ok.eq
  unfold Sh.rectoref1_Clash clashS
  simp only [ok_if, ok_some, ok_bd, runder_ok ha, runder_ok hb]
  refine ⟨fun h => by simp [h], fun h => ⟨fun h2 => by simp [h2], fun h2 => ⟨fun h3 => by simp [h, h2, h3], fun h3 => by simp [h, h2, h3]⟩⟩⟩
theorem compare_ok (a b : List UInt8) : ∃ n, Sh.path_Compare a b = some n ∧ (0 ≤ n ↔ Op.bytesLess a b = false) := by
  unfold Sh.path_Compare Sh.cmp_Compare_string Sh.cmp_isNaN_string
  simp only [Option.bind_some]
  cases h : Op.bytesLess a b with
  | true => exact ⟨-1, by simp [h], by simp⟩
  | false =>
    by_cases he : a = b
    · exact ⟨0, by simp [h, he], by simp⟩
    · exact ⟨1, by simp [h, he], by simp⟩
end Go.S
end

section
/- Plain laws on rows of files. No program in sight. -/
namespace Go.S
open Go
set_option maxRecDepth 100000
theorem known14 : Sh.rectolaw14_known = some true := by decide +kernel
theorem clone14 {l : List FilesFile} (h : l.length ≤ 4294967296) : Sh.slices_Clone_files_Row_files_File l = some l := by
  unfold Sh.slices_Clone_files_Row_files_File
  simp [lt, gd, h]
theorem clip14 (l : List FilesFile) : Sh.slices_Clip_files_Row_files_File l = some l := by
  unfold Sh.slices_Clip_files_Row_files_File
  simp [lt, gd]
theorem clipS14 (l : List (List UInt8)) : Sh.slices_Clip_string_string l = some l := by
  unfold Sh.slices_Clip_string_string
  simp [lt, gd]
theorem pcmp14 (a b : List UInt8) : Sh.path_Compare a b = some (if a < b then -1 else if b < a then 1 else 0) := by
  unfold Sh.path_Compare Sh.cmp_Compare_string Sh.cmp_isNaN_string
  simp only [Option.bind_some, decide_true, Bool.not_true, Bool.false_eq_true, if_false, Go.Proofs.bytesLess_eq, decide_eq_true_eq]
  by_cases h1 : a < b
  · simp [h1]
  · simp only [h1, if_false, decide_false, Bool.false_or]
    by_cases h2 : a = b
    · subst h2; simp [List.lt_irrefl]
    · have h3 : b < a := by
        by_cases q : b < a
        · exact q
        · exact absurd (List.le_antisymm (List.not_lt.1 q) (List.not_lt.1 h1)) h2
      simp [h2, h3]
theorem half_ok {s : Int} (h0 : 0 ≤ s) (h1 : s ≤ 4000000000) : IntKind.wrap .i64 (sHr .u64 (IntKind.wrap .u64 s) 1) = s / 2 := by
  have e1 : IntKind.wrap .u64 s = s := IntWalk.u64_in _ (by omega)
  rw [e1]
  have e2 : sHr .u64 s 1 = s / 2 := by
    unfold sHr
    show s.fdiv (2 ^ 1) = s / 2
    rw [Int.fdiv_eq_ediv_of_nonneg s (by decide)]
    rfl
  rw [e2]
  exact IntWalk.i64_in _ (by omega)
/-- a row that rises -/
def R (l : List FilesFile) : Prop := l.Pairwise (fun a b => a.path < b.path)
theorem R.sub {l l' : List FilesFile} (h : R l) (s : l'.Sublist l) : R l' := List.Pairwise.sublist s h
theorem R.uniq {l : List FilesFile} (h : R l) {a b : FilesFile} (ha : a ∈ l) (hb : b ∈ l) (e : a.path = b.path) : a = b := by
  obtain ⟨i, hi⟩ := List.getElem?_of_mem ha
  obtain ⟨j, hj⟩ := List.getElem?_of_mem hb
  obtain ⟨hi1, hi2⟩ := List.getElem?_eq_some_iff.1 hi
  obtain ⟨hj1, hj2⟩ := List.getElem?_eq_some_iff.1 hj
  rcases Nat.lt_trichotomy i j with q | q | q
  · have := List.pairwise_iff_getElem.1 h i j hi1 hj1 q
    rw [hi2, hj2, e] at this
    exact absurd this (List.lt_irrefl _)
  · subst q; rw [← hi2, ← hj2]
  · have := List.pairwise_iff_getElem.1 h j i hj1 hi1 q
    rw [hi2, hj2, e] at this
    exact absurd this (List.lt_irrefl _)
theorem R.ext {l l' : List FilesFile} (h : R l) (h' : R l') (m : ∀ z, z ∈ l ↔ z ∈ l') : l = l' := by
  have nd : ∀ {l : List FilesFile}, R l → l.Nodup := fun {l} h => by
    unfold R at h
    exact List.Pairwise.imp (fun {a b} (q : a.path < b.path) (e : a = b) => List.lt_irrefl b.path (e ▸ q)) h
  refine List.Perm.eq_of_pairwise (le := fun a b => a.path ≤ b.path) (fun a b ha hb h1 h2 => h.uniq ha ((m b).2 hb) (List.le_antisymm h1 h2)) (h.imp fun q => List.le_of_lt q) (h'.imp fun q => List.le_of_lt q) ((List.perm_ext_iff_of_nodup (nd h) (nd h')).2 m)
def gt (l : List FilesFile) (p : List UInt8) : Option FilesFile := l.find? (fun f => decide (f.path = p))
theorem gt_some {l : List FilesFile} (h : R l) {p : List UInt8} {z : FilesFile} : gt l p = some z ↔ z ∈ l ∧ z.path = p := by
  unfold gt
  constructor
  · intro q
    exact ⟨List.mem_of_find?_eq_some q, by simpa using List.find?_some q⟩
  · rintro ⟨hz, rfl⟩
    cases hq : l.find? (fun f => decide (f.path = z.path)) with
    | none => have := List.find?_eq_none.1 hq z hz; simp at this
    | some y =>
      have h1 := List.mem_of_find?_eq_some hq
      have h2 : y.path = z.path := by simpa using List.find?_some hq
      rw [h.uniq h1 hz h2]
theorem gt_none {l : List FilesFile} {p : List UInt8} : gt l p = none ↔ ∀ z ∈ l, z.path ≠ p := by
  unfold gt
  rw [List.find?_eq_none]
  simp
/-- two rows that rise and have the same of each path are one -/
theorem R.extg {l l' : List FilesFile} (h : R l) (h' : R l') (m : ∀ p, gt l p = gt l' p) : l = l' := h.ext h' fun z => by
  constructor
  · intro q
    have := (gt_some h).2 ⟨q, rfl⟩
    rw [m] at this
    exact ((gt_some h').1 this).1
  · intro q
    have := (gt_some h').2 ⟨q, rfl⟩
    rw [← m] at this
    exact ((gt_some h).1 this).1
/-- where a path's file is, or would be -/
structure At (x : List FilesFile) (p : List UInt8) (i : Int) : Prop where
  i0 : 0 ≤ i
  i1 : i ≤ x.length
  lo : ∀ f ∈ x.take i.toNat, f.path < p
  hi : ∀ f ∈ x.drop i.toNat, ¬ f.path < p
theorem R.take_lt {x : List FilesFile} (h : R x) {i : Nat} {z : FilesFile} (hz : x[i]? = some z) : ∀ f ∈ x.take i, f.path < z.path := fun f hf => by
  obtain ⟨j, hj⟩ := List.getElem?_of_mem hf
  rw [List.getElem?_take] at hj
  split at hj
  · next q =>
    obtain ⟨a1, a2⟩ := List.getElem?_eq_some_iff.1 hj
    obtain ⟨b1, b2⟩ := List.getElem?_eq_some_iff.1 hz
    have := List.pairwise_iff_getElem.1 h j i a1 b1 q
    rwa [a2, b2] at this
  · cases hj
theorem R.drop_gt {x : List FilesFile} (h : R x) {i : Nat} {z : FilesFile} (hz : x[i]? = some z) : ∀ f ∈ x.drop (i + 1), z.path < f.path := fun f hf => by
  obtain ⟨j, hj⟩ := List.getElem?_of_mem hf
  rw [List.getElem?_drop] at hj
  obtain ⟨a1, a2⟩ := List.getElem?_eq_some_iff.1 hj
  obtain ⟨b1, b2⟩ := List.getElem?_eq_some_iff.1 hz
  have := List.pairwise_iff_getElem.1 h i (i + 1 + j) b1 a1 (by omega)
  rwa [a2, b2] at this
theorem drop_cons' {α : Type} {x : List α} {i : Nat} {z : α} (hz : x[i]? = some z) : x.drop i = z :: x.drop (i + 1) := by
  obtain ⟨b1, b2⟩ := List.getElem?_eq_some_iff.1 hz
  rw [List.drop_eq_getElem_cons b1, b2]
theorem find14 {x : List FilesFile} (h : R x) (hb : x.length ≤ 100000000) (p : List UInt8) : Ok (Sh.files_Row_find x p) fun r => At x p r.1 ∧ (r.2 = true ↔ ∃ z, x[r.1.toNat]? = some z ∧ z.path = p) := by
  unfold Sh.files_Row_find Sh.slices_BinarySearchFunc_files_Row_files_File_string
  rw [ok_bd]
  refine ok_iter (I := fun t => 0 ≤ t.1 ∧ t.1 ≤ t.2 ∧ t.2 ≤ x.length ∧ (∀ f ∈ x.take t.1.toNat, f.path < p) ∧ (∀ f ∈ x.drop t.2.toNat, ¬ f.path < p)) (μ := fun t => (t.2 - t.1).toNat) ?_ ⟨by simp, by simp, by simp, by simp, by simp⟩
  rintro ⟨i, j⟩ ⟨i0, i1, i2, i3, i4⟩
  dsimp only at i0 i1 i2 i3 i4 ⊢
  simp only [ok_if, ok_up, ok_gd]
  refine ⟨fun hij => ⟨⟨by omega, by omega⟩, ?_⟩, fun hij => ?_⟩
  · rw [half_ok (by omega) (by omega)]
    obtain ⟨z, hz⟩ := at_get (l := x) (i := (i + j) / 2) (by omega) (by omega)
    rw [ok_bd, ok_at]
    refine ⟨by omega, z, hz, ?_⟩
    unfold Sh.files_Row_find_1
    rw [pcmp14, Option.bind_some, Option.bind_some]
    simp only [ok_if, ok_gd, ok_go]
    refine ⟨fun hc => ⟨⟨by omega, by omega⟩, ⟨by omega, by omega, by omega, fun f hf => ?_, i4⟩, by omega⟩, fun hc => ⟨⟨i0, by omega, by omega, i3, fun f hf => ?_⟩, by omega⟩⟩
    · have hzp : z.path < p := by
        by_cases q : z.path < p
        · exact q
        · rw [if_neg q] at hc; split at hc <;> omega
      rw [show ((i + j) / 2 + 1).toNat = ((i + j) / 2).toNat + 1 by omega, List.take_add_one, hz] at hf
      rcases List.mem_append.1 hf with q | q
      · exact List.lt_trans (h.take_lt hz f q) hzp
      · have : f = z := by simpa using q
        rw [this]; exact hzp
    · have hzp : ¬ z.path < p := fun q => hc (by rw [if_pos q]; omega)
      rw [drop_cons' hz] at hf
      rcases List.mem_cons.1 hf with q | q
      · rw [q]; exact hzp
      · intro hlt
        exact hzp (List.lt_trans (h.drop_gt hz f q) hlt)
  · have hji : j = i := by omega
    subst hji
    simp only [ok_bd, ok_at, ok_some]
    refine ⟨fun hl => ?_, fun hl => ⟨⟨i0, i2, i3, i4⟩, ?_⟩⟩
    · obtain ⟨z, hz⟩ := at_get (l := x) i0 hl
      refine ⟨i0, z, hz, ?_⟩
      unfold Sh.files_Row_find_1
      rw [pcmp14, Option.bind_some, ok_some]
      refine ⟨⟨i0, i2, i3, i4⟩, ?_⟩
      rw [decide_eq_true_eq]
      have hnl : ¬ z.path < p := i4 z (by rw [drop_cons' hz]; exact List.mem_cons_self ..)
      rw [if_neg hnl]
      constructor
      · intro q
        refine ⟨z, hz, ?_⟩
        by_cases hp : p < z.path
        · rw [if_pos hp] at q; omega
        · exact List.le_antisymm (List.not_lt.1 hp) (List.not_lt.1 hnl)
      · rintro ⟨y, hy, rfl⟩
        rw [hz] at hy; cases hy
        rw [if_neg (List.lt_irrefl _)]
    · simp only [Bool.false_eq_true, false_iff]
      rintro ⟨z, hz, _⟩
      have := get_lt hz
      omega
theorem At.none {x : List FilesFile} {p : List UInt8} {i : Int} (h : R x) (a : At x p i) (hn : ¬ ∃ z, x[i.toNat]? = some z ∧ z.path = p) : ∀ z ∈ x, z.path ≠ p := fun z hz e => by
  rw [← List.take_append_drop i.toNat x] at hz
  rcases List.mem_append.1 hz with q | q
  · exact List.lt_irrefl p (e ▸ a.lo z q)
  · obtain ⟨y, hy⟩ : ∃ y, x[i.toNat]? = some y := by
      cases hq : x[i.toNat]? with
      | some y => exact ⟨y, rfl⟩
      | none =>
        have := List.getElem?_eq_none_iff.1 hq
        rw [List.drop_of_length_le this] at q; cases q
    have hyp : y.path ≠ p := fun e' => hn ⟨y, hy, e'⟩
    rw [drop_cons' hy] at q
    rcases List.mem_cons.1 q with q | q
    · rw [q] at e; exact hyp e
    · have h1 := h.drop_gt hy z q
      rw [e] at h1
      have h2 := a.hi y (by rw [drop_cons' hy]; exact List.mem_cons_self ..)
      exact h2 h1
/-- a path's file, or none -/
def getF (x : List FilesFile) (p : List UInt8) : FilesFile × Bool := match gt x p with | some f => (f, true) | none => (⟨[], 0, []⟩, false)
theorem getF_some {x : List FilesFile} {p : List UInt8} {f : FilesFile} (h : gt x p = some f) : getF x p = (f, true) := by unfold getF; rw [h]
theorem getF_none {x : List FilesFile} {p : List UInt8} (h : gt x p = none) : getF x p = (⟨[], 0, []⟩, false) := by unfold getF; rw [h]
theorem get14 {x : List FilesFile} (h : R x) (hb : x.length ≤ 100000000) (p : List UInt8) : Sh.files_Row_Get x p = some (getF x p) := by
  apply Ok.eq
  unfold Sh.files_Row_Get
  refine ok_bd.2 ((find14 h hb p).mono fun r ⟨ha, hr⟩ => ?_)
  simp only [ok_if, ok_some]
  refine ⟨fun hn => ?_, fun hn => ?_⟩
  · have hf : ¬ r.2 = true := by simpa using hn
    have := ha.none h fun q => hf (hr.2 q)
    rw [getF_none (gt_none.2 this)]
  · have hf : r.2 = true := by simpa using hn
    obtain ⟨z, hz, hp⟩ := hr.1 hf
    rw [ok_bd, ok_at]
    refine ⟨ha.i0, z, hz, ?_⟩
    rw [ok_some, getF_some ((gt_some h).2 ⟨List.mem_of_getElem? hz, hp⟩)]
/-- a row with one more, or another one -/
def putF (r : List FilesFile) (f : FilesFile) : List FilesFile := r.filter (fun z => decide (z.path < f.path)) ++ [f] ++ r.filter (fun z => decide (f.path < z.path))
theorem put14 {x : List FilesFile} (h : R x) (hb : x.length ≤ 100000000) (f : FilesFile) : Sh.files_Row_Put x f = some (putF x f) := by
  apply Ok.eq
  unfold Sh.files_Row_Put
  rw [clone14 (by omega), Option.bind_some]
  refine ok_bd.2 ((find14 h hb f.path).mono fun r ⟨ha, hr⟩ => ?_)
  have hlo : x.filter (fun z => decide (z.path < f.path)) = x.take r.1.toNat := by
    conv => lhs; rw [← List.take_append_drop r.1.toNat x, List.filter_append]
    rw [List.filter_eq_self.2 fun z hz => decide_eq_true (ha.lo z hz), List.filter_eq_nil_iff.2 fun z hz => by simpa using ha.hi z hz, List.append_nil]
  have hlo2 : (x.take r.1.toNat).filter (fun z => decide (f.path < z.path)) = [] := List.filter_eq_nil_iff.2 fun z hz => by
    have := ha.lo z hz
    simp only [decide_eq_true_eq]
    exact fun q => List.lt_irrefl _ (List.lt_trans q this)
  simp only [ok_if]
  refine ⟨fun hf => ?_, fun hf => ?_⟩
  · obtain ⟨z, hz, hp⟩ := hr.1 hf
    have hlt := get_lt hz
    rw [ok_bd, ok_at]
    refine ⟨ha.i0, z, hz, ?_⟩
    simp only [ok_lt]
    rw [clip14, Option.bind_some, ok_some]
    unfold putF
    have hhi : x.filter (fun z => decide (f.path < z.path)) = x.drop (r.1.toNat + 1) := by
      conv => lhs; rw [← List.take_append_drop r.1.toNat x, List.filter_append, hlo2, List.nil_append, drop_cons' hz]
      rw [List.filter_cons_of_neg (by rw [hp]; simp [List.lt_irrefl])]
      exact List.filter_eq_self.2 fun y hy => decide_eq_true (by rw [← hp]; exact h.drop_gt hz y hy)
    rw [hlo, hhi]
    apply List.ext_getElem?
    intro j
    rw [List.getElem?_set]
    have hlen : (x.take r.1.toNat).length = r.1.toNat := by rw [List.length_take]; omega
    split
    · next q =>
      subst q
      rw [List.append_assoc, List.getElem?_append_right (by omega), hlen, Nat.sub_self]
      first | rw [if_pos hlt]; rfl | rfl
    · next q =>
      by_cases hj : j < r.1.toNat
      · rw [List.append_assoc, List.getElem?_append_left (by omega), List.getElem?_take, if_pos hj]
      · rw [List.append_assoc, List.getElem?_append_right (by omega), hlen, show j - r.1.toNat = (j - r.1.toNat - 1) + 1 by omega]
        simp only [List.singleton_append, List.getElem?_cons_succ, List.getElem?_drop]
        congr 1; omega
  · have hn := ha.none h fun q => hf (hr.2 q)
    simp only [ok_lt, ok_gd]
    refine ⟨⟨⟨ha.i0, ha.i1⟩, by simp, by simp; omega⟩, ?_⟩
    rw [clip14, Option.bind_some, ok_some]
    unfold putF
    have hhi : x.filter (fun z => decide (f.path < z.path)) = x.drop r.1.toNat := by
      conv => lhs; rw [← List.take_append_drop r.1.toNat x, List.filter_append, hlo2, List.nil_append]
      refine List.filter_eq_self.2 fun y hy => decide_eq_true ?_
      by_cases q : f.path < y.path
      · exact q
      · exact absurd (List.le_antisymm (List.not_lt.1 q) (List.not_lt.1 (ha.hi y hy))) (hn y (List.mem_of_mem_drop hy))
    rw [hlo, hhi]
theorem putF_mem (x : List FilesFile) (f z : FilesFile) : z ∈ putF x f ↔ z = f ∨ z ∈ x ∧ z.path ≠ f.path := by
  unfold putF
  simp only [List.mem_append, List.mem_singleton, List.mem_filter, decide_eq_true_eq]
  constructor
  · rintro ((⟨a, b⟩ | a) | ⟨a, b⟩)
    · exact .inr ⟨a, fun e => List.lt_irrefl _ (e ▸ b)⟩
    · exact .inl a
    · exact .inr ⟨a, fun e => List.lt_irrefl _ (e ▸ b)⟩
  · rintro (a | ⟨a, b⟩)
    · exact .inl (.inr a)
    · by_cases q : z.path < f.path
      · exact .inl (.inl ⟨a, q⟩)
      · by_cases q2 : f.path < z.path
        · exact .inr ⟨a, q2⟩
        · exact absurd (List.le_antisymm (List.not_lt.1 q2) (List.not_lt.1 q)) b
theorem putF_R {x : List FilesFile} (h : R x) (f : FilesFile) : R (putF x f) := by
  unfold putF R
  rw [List.append_assoc, List.pairwise_append]
  refine ⟨h.sub List.filter_sublist, ?_, fun a ha b hb => ?_⟩
  · refine List.pairwise_append.2 ⟨List.pairwise_singleton _ _, h.sub List.filter_sublist, fun a ha b hb => ?_⟩
    rw [List.mem_singleton.1 ha]
    exact of_decide_eq_true (List.mem_filter.1 hb).2
  · have h1 : a.path < f.path := of_decide_eq_true (List.mem_filter.1 ha).2
    rcases List.mem_append.1 hb with q | q
    · rw [List.mem_singleton.1 q]; exact h1
    · have h2 : f.path < b.path := of_decide_eq_true (List.mem_filter.1 q).2
      exact List.lt_trans h1 h2
theorem putF_len (x : List FilesFile) (f : FilesFile) : (putF x f).length ≤ 2 * x.length + 1 := by
  unfold putF
  have h1 := List.length_filter_le (fun z : FilesFile => decide (z.path < f.path)) x
  have h2 := List.length_filter_le (fun z : FilesFile => decide (f.path < z.path)) x
  simp only [List.length_append, List.length_cons, List.length_nil]; omega
end Go.S
end

section
/- Plain laws on rows of files: what may be, RowPut. No program in sight. -/
namespace Go.S
open Go
/-- a file that may be, by itself -/
def vF (f : FilesFile) : Prop := checkP f.path = 0 ∧ (f.mode = 1 ∨ f.mode = 2) ∧ f.data.length ≤ 4096
theorem checkP_len {p : List UInt8} (h : checkP p = 0) : p.length ≤ 64 := by
  unfold checkP at h
  split at h
  · omega
  · omega
structure GoodF (x : List FilesFile) : Prop where
  v : ∀ f ∈ x, vF f
  r : R x
  c : x.Pairwise (fun a b => clashS a.path b.path = false)
theorem GoodF.sub {l l' : List FilesFile} (h : GoodF l) (s : l'.Sublist l) : GoodF l' := ⟨fun f hf => h.v f (s.subset hf), h.r.sub s, List.Pairwise.sublist s h.c⟩
theorem clash_comm (a b : List UInt8) : clashS a b = clashS b a := by
  unfold clashS
  rw [Bool.or_comm (underS a b), Bool.and_comm (decide (a ≠ []))]
theorem clash_self (a : List UInt8) : clashS a a = false := by
  unfold clashS underS
  by_cases h : a = [] <;> simp [h]
  intro _
  omega
theorem fix14 (l : List FilesFile) (f : FilesFile) (hb : l.length ≤ 1000000000) (hl : ∀ z ∈ l, z.path.length ≤ 1000000000) (hf : f.path.length ≤ 1000000000) : Ok (Sh.slices_ContainsFunc_files_Row_files_File l f) (fun b => b = l.any fun y => clashS y.path f.path) := by
  unfold Sh.slices_ContainsFunc_files_Row_files_File Sh.slices_IndexFunc_files_Row_files_File
  rw [ok_bd]
  refine (ixloop (fun y => clashS y.path f.path) l hb (fun y => Sh.files_Row_wrong_1 y f) (fun y hy => ?_) _ fun i => rfl).mono fun r hr => ?_
  · unfold Sh.files_Row_wrong_1
    rw [clash_ok (hl y hy) hf]; rfl
  · rw [ok_some, fst_any hr]
theorem wrong14 {x : List FilesFile} (hb : x.length ≤ 1000000) (hl : ∀ z ∈ x, z.path.length ≤ 1000000000) {i : Int} (i0 : 0 ≤ i) (hi : i < x.length) {z : FilesFile} (hz : x[i.toNat]? = some z) :
    Ok (Sh.files_Row_wrong x i) fun e => e = 0 ↔ vF z ∧ (∀ y, 0 < i → x[(i - 1).toNat]? = some y → y.path < z.path) ∧ ∀ y ∈ x.take i.toNat, clashS y.path z.path = false := by
  unfold Sh.files_Row_wrong
  have hzm := List.mem_of_getElem? hz
  rw [ok_bd, ok_at]
  refine ⟨i0, z, hz, ?_⟩
  rw [pcheck_ok, Option.bind_some]
  by_cases hc : checkP z.path = 0
  · rw [if_pos hc]
    refine ok_jnP (fun b => b = false ↔ (z.mode = 1 ∨ z.mode = 2)) ?_ ?_
    · intro b hbm
      simp only [ok_if, ok_some]
      refine ⟨fun h => ⟨fun q => absurd q (by omega), fun ⟨⟨_, m, _⟩, _⟩ => by rw [hbm.2 m] at h; cases h⟩, fun h => ⟨fun hd => ⟨fun q => absurd q (by omega), fun ⟨⟨_, _, q⟩, _⟩ => absurd q (by omega)⟩, fun hd => ?_⟩⟩
      have hm := hbm.1 (by simpa using h)
      have hd' : z.data.length ≤ 4096 := by omega
      refine ok_jnP (fun b => b = false ↔ (∀ y, 0 < i → x[(i - 1).toNat]? = some y → y.path < z.path)) ?_ ?_
      · intro b hbm
        simp only [ok_if, ok_some]
        refine ⟨fun h => ⟨fun q => absurd q (by omega), fun ⟨_, q, _⟩ => by rw [hbm.2 q] at h; cases h⟩, fun h => ?_⟩
        have hr := hbm.1 (by simpa using h)
        simp only [ok_gd, ok_lt]
        refine ⟨⟨i0, by omega⟩, ok_bd.2 ((fix14 (x.take i.toNat) z (by rw [List.length_take]; omega) (fun y hy => hl y (List.mem_of_mem_take hy)) (hl z hzm)).mono fun c hcc => ?_)⟩
        simp only [ok_if, ok_some]
        refine ⟨fun h => ⟨fun q => absurd q (by omega), fun ⟨_, _, q⟩ => ?_⟩, fun h => ⟨fun _ => ⟨⟨hc, hm, hd'⟩, hr, fun y hy => ?_⟩, fun _ => (by first | rfl | trivial)⟩⟩
        · rw [hcc] at h
          obtain ⟨y, hy, hy2⟩ := List.any_eq_true.1 h
          rw [q y hy] at hy2; cases hy2
        · cases hq : clashS y.path z.path with
          | false => rfl
          | true => exact absurd (hcc.trans (List.any_eq_true.2 ⟨y, hy, hq⟩)) h
      · intro K hK
        simp only [ok_if, ok_gd]
        refine ⟨fun h => ⟨⟨by omega, by omega⟩, ?_⟩, fun h => hK _ ⟨fun _ y q => absurd q h, fun _ => rfl⟩⟩
        obtain ⟨y, hy⟩ := at_get (l := x) (i := i - 1) (by omega) (by omega)
        rw [ok_bd, ok_at]
        refine ⟨by omega, y, hy, ?_⟩
        rw [pcmp14, Option.bind_some]
        refine hK _ ?_
        rw [decide_eq_false_iff_not]
        constructor
        · intro q y' _ hy'
          rw [hy] at hy'; cases hy'
          by_cases q2 : y.path < z.path
          · exact q2
          · rw [if_neg q2] at q; split at q <;> omega
        · intro q
          rw [if_pos (q y h hy)]; omega
    · intro K hK
      simp only [ok_if]
      refine ⟨fun h => hK _ ⟨fun _ => .inl h, fun _ => rfl⟩, fun h => hK _ ⟨fun q => .inr (by simpa using q), fun q => ?_⟩⟩
      rcases q with q | q
      · exact absurd q h
      · simp [q]
  · rw [if_neg hc, ok_some]
    exact ⟨fun h => absurd h hc, fun ⟨⟨h, _⟩, _⟩ => absurd h hc⟩
theorem goodF_snoc {x : List FilesFile} {i : Int} (i0 : 0 ≤ i) {z : FilesFile} (hz : x[i.toNat]? = some z) (hg : GoodF (x.take i.toNat)) (hv : vF z) (hr : ∀ y, 0 < i → x[(i - 1).toNat]? = some y → y.path < z.path) (hc : ∀ y ∈ x.take i.toNat, clashS y.path z.path = false) : GoodF (x.take (i + 1).toNat) := by
  rw [take_snoc i0 hz]
  have hlt : ∀ a ∈ x.take i.toNat, a.path < z.path := fun a ha => by
    have hpos : 0 < i := by
      rcases Int.lt_or_le 0 i with q | q
      · exact q
      · rw [show i.toNat = 0 by omega] at ha; simp at ha
    have hil := get_lt hz
    obtain ⟨y, hy⟩ := at_get (l := x) (i := i - 1) (by omega) (by omega)
    have hyz := hr y hpos hy
    have he : x.take i.toNat = x.take (i - 1).toNat ++ [y] := by
      have := take_snoc (l := x) (i := i - 1) (by omega) hy
      rwa [show i - 1 + 1 = i by omega] at this
    rw [he] at ha
    rcases List.mem_append.1 ha with q | q
    · have hR := hg.r
      rw [he] at hR
      have := (List.pairwise_append.1 hR).2.2 a q y (List.mem_singleton_self _)
      exact List.lt_trans this hyz
    · rw [List.mem_singleton.1 q]; exact hyz
  refine ⟨fun f hf => ?_, List.pairwise_append.2 ⟨hg.r, List.pairwise_singleton _ _, fun a ha b hb => ?_⟩, List.pairwise_append.2 ⟨hg.c, List.pairwise_singleton _ _, fun a ha b hb => ?_⟩⟩
  · rcases List.mem_append.1 hf with q | q
    · exact hg.v f q
    · rw [List.mem_singleton.1 q]; exact hv
  · rw [List.mem_singleton.1 hb]; exact hlt a ha
  · rw [List.mem_singleton.1 hb]; exact hc a ha
theorem check14 {x : List FilesFile} (hb : x.length ≤ 1000000) (hl : ∀ z ∈ x, z.path.length ≤ 1000000000) : Ok (Sh.files_Row_Check x) fun e => e.isNil = true ↔ x.length ≤ 64 ∧ GoodF x := by
  unfold Sh.files_Row_Check
  simp only [ok_if, ok_some]
  refine ⟨fun h => ⟨fun q => (by cases q), fun q => absurd q.1 (by omega)⟩, fun h64 => ?_⟩
  refine ok_iter (I := fun i => 0 ≤ i ∧ i ≤ x.length ∧ GoodF (x.take i.toNat)) (μ := fun i => (x.length - i).toNat) ?_ ⟨by omega, by omega, ⟨fun f h => (by simp at h), by simp [R], by simp⟩⟩
  rintro i ⟨i0, i1, hg⟩
  simp only [ok_if, ok_up, ok_some]
  refine ⟨fun hi => ?_, fun hi => ?_⟩
  · obtain ⟨z, hz⟩ := at_get (l := x) i0 hi
    refine ok_bd.2 ((wrong14 hb hl i0 hi hz).mono fun e he => ?_)
    simp only [ok_if, ok_gd, ok_go, ok_up, ok_some]
    refine ⟨fun h => ⟨⟨by omega, by omega⟩, ⟨by omega, by omega, ?_⟩, by omega⟩, fun h => ⟨fun q => (by cases q), fun ⟨_, q⟩ => absurd (he.2 ?_) h⟩⟩
    · obtain ⟨a, b, c⟩ := he.1 h
      exact goodF_snoc i0 hz hg a b c
    · refine ⟨q.v z (List.mem_of_getElem? hz), fun y hpos hy => ?_, fun y hy => ?_⟩
      · exact q.r.take_lt hz y (List.mem_of_getElem? (i := (i - 1).toNat) (by rw [List.getElem?_take, if_pos (by omega)]; exact hy))
      · obtain ⟨j, hj⟩ := List.getElem?_of_mem hy
        rw [List.getElem?_take] at hj
        split at hj
        · next hlt =>
          have h1 := (List.getElem?_eq_some_iff.1 hj)
          have h2 := (List.getElem?_eq_some_iff.1 hz)
          have := List.pairwise_iff_getElem.1 q.c j i.toNat h1.1 h2.1 hlt
          rwa [h1.2, h2.2] at this
        · cases hj
  · rw [List.take_of_length_le (by omega)] at hg
    exact ⟨fun _ => ⟨by omega, hg⟩, fun _ => rfl⟩
theorem cut14 {l : List FilesFile} (p : List UInt8) (hb : l.length ≤ 1000000000) : Sh.files_Row_Cut l p = some (l.filter fun z => !decide (z.path = p)) := by
  unfold Sh.files_Row_Cut
  rw [clone14 (by omega), Option.bind_some]
  have hix : Ok (Sh.slices_IndexFunc_files_Row_files_File_v2 l p) (Fst (fun z => decide (z.path = p)) l) := by
    unfold Sh.slices_IndexFunc_files_Row_files_File_v2
    exact ixloop (fun z => decide (z.path = p)) l hb (fun z => Sh.files_Row_Cut_1 z p) (fun z hz => rfl) _ fun i => rfl
  have : Sh.slices_DeleteFunc_files_Row_files_File l p = some (l.filter fun z => !decide (z.path = p)) := by
    unfold Sh.slices_DeleteFunc_files_Row_files_File
    exact del_ok (fun z => decide (z.path = p)) l hb (fun z => Sh.files_Row_Cut_1 z p) (fun z hz => rfl) _ hix _ fun t => rfl
  rw [this, Option.bind_some, clip14]
  rfl
theorem clear14 {l : List FilesFile} (p : List UInt8) (hb : l.length ≤ 1000000000) (hl : ∀ z ∈ l, z.path.length ≤ 1000000000) (hp : p.length ≤ 1000000000) : Sh.files_Row_Clear l p = some (l.filter fun z => !clashS z.path p) := by
  unfold Sh.files_Row_Clear
  rw [clone14 (by omega), Option.bind_some]
  have hF : ∀ z ∈ l, Sh.files_Row_Clear_1 z p = some (clashS z.path p) := fun z hz => by
    unfold Sh.files_Row_Clear_1
    rw [clash_ok (hl z hz) hp]; rfl
  have hix : Ok (Sh.slices_IndexFunc_files_Row_files_File_v3 l p) (Fst (fun z => clashS z.path p) l) := by
    unfold Sh.slices_IndexFunc_files_Row_files_File_v3
    exact ixloop (fun z => clashS z.path p) l hb (fun z => Sh.files_Row_Clear_1 z p) hF _ fun i => rfl
  have : Sh.slices_DeleteFunc_files_Row_files_File_v2 l p = some (l.filter fun z => !clashS z.path p) := by
    unfold Sh.slices_DeleteFunc_files_Row_files_File_v2
    exact del_ok (fun z => clashS z.path p) l hb (fun z => Sh.files_Row_Clear_1 z p) hF _ hix _ fun t => rfl
  rw [this, Option.bind_some, clip14]
  rfl
theorem same14 (l r : List FilesFile) (hb : l.length ≤ 1000000000) : Sh.files_Row_Same l r = some (decide (l = r)) := by
  unfold Sh.files_Row_Same
  have : Sh.slices_Equal_files_Row_files_File l r = some (decide (l = r)) := by
    unfold Sh.slices_Equal_files_Row_files_File
    split
    · next h => exact eqloop (fun z w => z.path = w.path ∧ z.mode = w.mode ∧ z.data = w.data) (fun z w => by cases z; cases w; simp) l r h (by omega) _ fun i => rfl
    · next h => exact congrArg some (decide_eq_false fun e => h (by rw [e])).symm
  rw [this]; rfl
theorem few14 (l : List FilesFile) : Ok (Sh.rectolaw14_Few l) fun b => b = true → l.length ≤ 80 ∧ ∀ f ∈ l, f.path.length ≤ 100 := by
  unfold Sh.rectolaw14_Few
  simp only [ok_if, ok_some]
  refine ⟨fun _ h => (by cases h), fun hl => ?_⟩
  refine ok_iter (I := fun i => 0 ≤ i ∧ i ≤ l.length ∧ ∀ f ∈ l.take i.toNat, f.path.length ≤ 100) (μ := fun i => (l.length - i).toNat) ?_ ⟨by omega, by omega, by simp⟩
  rintro i ⟨i0, i1, i2⟩
  simp only [ok_if, ok_up, ok_some]
  refine ⟨fun hi => ?_, fun hi _ => ⟨by omega, by rw [List.take_of_length_le (by omega)] at i2; exact i2⟩⟩
  obtain ⟨z, hz⟩ := at_get (l := l) i0 hi
  refine ok_jnP (fun b => b = false → z.path.length ≤ 100) ?_ ?_
  · intro b hb
    simp only [ok_if, ok_up, ok_gd, ok_go, ok_some]
    refine ⟨fun _ h => (by cases h), fun h => ⟨⟨by omega, by omega⟩, ⟨by omega, by omega, fun f hf => ?_⟩, by omega⟩⟩
    rw [take_snoc i0 hz] at hf
    rcases List.mem_append.1 hf with q | q
    · exact i2 f q
    · rw [List.mem_singleton.1 q]; exact hb (by simpa using h)
  · intro K hK
    simp only [ok_bd, ok_at, ok_if]
    exact ⟨i0, z, hz, fun _ => hK _ fun h => (by cases h), fun h => ⟨i0, z, hz, hK _ fun _ => by omega⟩⟩
theorem cause14 (f : FilesFile) : Ok (Sh.rectoref14_Cause (⟨f.path, f.mode, f.data⟩ : Rectoref14File)) fun e => e = 0 → vF f := by
  unfold Sh.rectoref14_Cause
  rw [rpcheck_ok, Option.bind_some]
  simp only [ok_if, ok_bd, ok_some]
  refine ⟨fun hc => ?_, fun hc h => absurd h hc⟩
  have hm : Sh.rectoref14_Mode f.mode = some (decide (f.mode = 1 ∨ f.mode = 2)) := by
    unfold Sh.rectoref14_Mode
    by_cases h : f.mode = 1 <;> simp [h]
  rw [hm, ok_some]
  refine ⟨fun _ h => absurd h (by omega), fun hm => ⟨fun _ h => absurd h (by omega), fun hd _ => ⟨hc, (by by_cases q : f.mode = 1 <;> simp_all), by omega⟩⟩⟩
theorem rowPut_ok (r : List FilesFile) (f : FilesFile) : Sh.rectolaw14_RowPut r f = some true := by
  apply Ok.eq
  unfold Sh.rectolaw14_RowPut
  rw [known14, Option.bind_some, if_neg (by simp)]
  refine ok_jnP (fun b => b = false → r.length ≤ 80 ∧ GoodF r ∧ vF f) ?_ ?_
  · intro b hb
    simp only [ok_if, ok_some]
    refine ⟨fun _ => trivial, fun hbf => ?_⟩
    obtain ⟨hr, hg, hv⟩ := hb (by simpa using hbf)
    have hfl := checkP_len hv.1
    have hpl : ∀ z ∈ r, z.path.length ≤ 1000000000 := fun z hz => by have := checkP_len (hg.v z hz).1; omega
    rw [clear14 f.path (by omega) hpl (by omega), Option.bind_some]
    have hcl := List.length_filter_le (fun z : FilesFile => !clashS z.path f.path) r
    have hgc : GoodF (r.filter fun z => !clashS z.path f.path) := hg.sub List.filter_sublist
    have hnc : ∀ z ∈ r.filter (fun z => !clashS z.path f.path), z ∈ r ∧ clashS z.path f.path = false := fun z hz => by simpa using List.mem_filter.1 hz
    have hin : ∀ z, z ∈ r.filter (fun z => !clashS z.path f.path) ↔ z ∈ r ∧ clashS z.path f.path = false := fun z => by simp [List.mem_filter]
    generalize r.filter (fun z => !clashS z.path f.path) = c at hcl hgc hnc hin ⊢
    rw [show (⟨f.path, f.mode, f.data⟩ : FilesFile) = f from rfl, put14 hgc.r (by omega) f, Option.bind_some]
    have hql := putF_len c f
    have hqR := putF_R hgc.r f
    have hqg : GoodF (putF c f) := by
      refine ⟨fun z hz => ?_, hqR, ?_⟩
      · rcases (putF_mem c f z).1 hz with q | ⟨q, _⟩
        · rw [q]; exact hv
        · exact hgc.v z q
      · unfold putF
        rw [List.append_assoc, List.pairwise_append]
        refine ⟨List.Pairwise.sublist List.filter_sublist hgc.c, List.pairwise_append.2 ⟨List.pairwise_singleton _ _, List.Pairwise.sublist List.filter_sublist hgc.c, fun a ha b hb => ?_⟩, fun a ha b hb => ?_⟩
        · rw [List.mem_singleton.1 ha, clash_comm]
          exact (hnc b (List.mem_filter.1 hb).1).2
        · have ha' := List.mem_filter.1 ha
          rcases List.mem_append.1 hb with q | q
          · rw [List.mem_singleton.1 q]; exact (hnc a ha'.1).2
          · have hb' := List.mem_filter.1 q
            have h1 : a.path < f.path := of_decide_eq_true ha'.2
            have h2 : f.path < b.path := of_decide_eq_true hb'.2
            have h3 := List.lt_trans h1 h2
            obtain ⟨i, hi⟩ := List.getElem?_of_mem ha'.1
            obtain ⟨j, hj⟩ := List.getElem?_of_mem hb'.1
            obtain ⟨i1, i2⟩ := List.getElem?_eq_some_iff.1 hi
            obtain ⟨j1, j2⟩ := List.getElem?_eq_some_iff.1 hj
            rcases Nat.lt_trichotomy i j with q | q | q
            · have := List.pairwise_iff_getElem.1 hgc.c i j i1 j1 q
              rwa [i2, j2] at this
            · subst q
              rw [← i2, ← j2] at h3
              exact absurd h3 (List.lt_irrefl _)
            · have := List.pairwise_iff_getElem.1 hgc.c j i j1 i1 q
              rw [i2, j2, clash_comm] at this
              exact this
    have hqp : ∀ z ∈ putF c f, z.path.length ≤ 1000000000 := fun z hz => by have := checkP_len (hqg.v z hz).1; omega
    have hgf : gt (putF c f) f.path = some f := (gt_some hqR).2 ⟨(putF_mem c f f).2 (.inl rfl), rfl⟩
    rw [get14 hqR (by omega) f.path, Option.bind_some, getF_some hgf]
    simp only [ok_if]
    refine ⟨fun h64 => ok_bd.2 ((check14 (by omega) hqp).mono fun e he => ?_), fun h64 => ?_⟩
    · rw [ok_some]
      cases hn : e.isNil with
      | false => simp
      | true => exact absurd (he.1 hn).1 (by omega)
    · refine ok_iter (I := fun i => 0 ≤ i ∧ i ≤ r.length) (μ := fun i => (r.length - i).toNat) ?_ ⟨by omega, by omega⟩
      rintro i ⟨i0, i1⟩
      simp only [ok_if, ok_up]
      refine ⟨fun hi => ?_, fun hi => ok_bd.2 ((check14 (by omega) hqp).mono fun e he => ?_)⟩
      · obtain ⟨z, hz⟩ := at_get (l := r) i0 hi
        have hzr := List.mem_of_getElem? hz
        rw [ok_bd, ok_at]
        refine ⟨i0, z, hz, ?_⟩
        rw [get14 hqR (by omega) z.path, Option.bind_some, ok_bd, ok_at]
        refine ⟨i0, z, hz, ?_⟩
        rw [rclash_ok (hpl z hzr) (by omega), Option.bind_some]
        have hst : ∀ b, clashS z.path f.path = b → (getF (putF c f) z.path).2 = !b := by
          intro b hcb
          cases b with
          | false =>
            have hmem : ∃ w, gt (putF c f) z.path = some w := by
              by_cases he : z.path = f.path
              · exact ⟨f, (gt_some hqR).2 ⟨(putF_mem c f f).2 (.inl rfl), he.symm⟩⟩
              · exact ⟨z, (gt_some hqR).2 ⟨(putF_mem c f z).2 (.inr ⟨(hin z).2 ⟨hzr, hcb⟩, he⟩), rfl⟩⟩
            obtain ⟨w, hw⟩ := hmem
            rw [getF_some hw]; rfl
          | true =>
            have : gt (putF c f) z.path = none := gt_none.2 fun w hw e => by
              rcases (putF_mem c f w).1 hw with q | ⟨q, _⟩
              · rw [q] at e; rw [← e, clash_self] at hcb; cases hcb
              · have := (hnc w q).2
                rw [e, hcb] at this; cases this
            rw [getF_none this]; rfl
        have hst' := hst _ rfl
        rw [if_neg (by rw [hst']; cases clashS z.path f.path <;> simp)]
        simp only [ok_gd, ok_go]
        exact ⟨⟨by omega, by omega⟩, ⟨by omega, by omega⟩, by omega⟩
      · have := he.2 ⟨by omega, hqg⟩
        rw [if_pos this]
        simp [ok_some]
  · intro K hK
    refine ok_bd.2 ((few14 r).mono fun b hb => ?_)
    simp only [ok_if]
    refine ⟨fun _ => hK _ fun h => (by cases h), fun h => ?_⟩
    obtain ⟨h1, h2⟩ := hb (by simpa using h)
    refine ok_bd.2 ((check14 (by omega) (fun z hz => by have := h2 z hz; omega)).mono fun e he => ?_)
    simp only [ok_if]
    refine ⟨fun hn => ok_bd.2 ((cause14 f).mono fun w hw => hK _ fun q => ⟨h1, (he.1 hn).2, hw (by simpa using q)⟩), fun _ => hK _ fun h => (by cases h)⟩
end Go.S
end

section
/- Plain laws on rows of files: all paths, what differs. No program in sight. -/
namespace Go.S
open Go
/-- all paths of some rows -/
def PathsOf (ls : List (List FilesFile)) (r : List (List UInt8)) : Prop := r.Pairwise (· < ·) ∧ ∀ x, x ∈ r ↔ ∃ l ∈ ls, ∃ f ∈ l, f.path = x
theorem strict_ext {l l' : List (List UInt8)} (h : l.Pairwise (· < ·)) (h' : l'.Pairwise (· < ·)) (m : ∀ z, z ∈ l ↔ z ∈ l') : l = l' := by
  have nd : ∀ {l : List (List UInt8)}, l.Pairwise (· < ·) → l.Nodup := fun {l} h => h.imp (fun {a b} (q : a < b) (e : a = b) => List.lt_irrefl b (e ▸ q))
  exact List.Perm.eq_of_pairwise (le := fun a b => a ≤ b) (fun a b _ _ h1 h2 => List.le_antisymm h1 h2) (h.imp fun q => List.le_of_lt q) (h'.imp fun q => List.le_of_lt q) ((List.perm_ext_iff_of_nodup (nd h) (nd h')).2 m)
theorem paths14 (ls : List (List FilesFile)) (hn : ls.length ≤ 8) (hl : ∀ l ∈ ls, l.length ≤ 1000000 ∧ ∀ f ∈ l, f.path.length ≤ 1000000) : Ok (Sh.files_Paths ls) (fun r => PathsOf ls r ∧ r.length ≤ 8000000) := by
  unfold Sh.files_Paths
  refine ok_iter (I := fun t => 0 ≤ t.1 ∧ t.1 ≤ ls.length ∧ (t.2.length : Int) ≤ t.1 * 1000000 ∧ ∀ x, x ∈ t.2 ↔ ∃ l ∈ ls.take t.1.toNat, ∃ f ∈ l, f.path = x) (μ := fun t => (ls.length - t.1).toNat) ?_ ⟨by simp, by simp, by simp, by simp⟩
  rintro ⟨i, acc⟩ ⟨i0, i1, i2, i3⟩
  dsimp only at i0 i1 i2 i3 ⊢
  simp only [ok_if, ok_up, ok_bd, ok_at]
  refine ⟨fun hi => ?_, fun hi => ?_⟩
  · obtain ⟨l, hz⟩ := at_get (l := ls) i0 hi
    have hll := hl l (List.mem_of_getElem? hz)
    refine ⟨i0, l, hz, ?_⟩
    have hmul : (i + 1) * 1000000 = i * 1000000 + 1000000 := by rw [Int.add_mul]; omega
    have hle : i * 1000000 ≤ 8000000 := by omega
    refine ok_iter (I := fun t => 0 ≤ t.1 ∧ t.1 ≤ l.length ∧ (t.2.length : Int) ≤ i * 1000000 + t.1 ∧ ∀ x, x ∈ t.2 ↔ (∃ l ∈ ls.take i.toNat, ∃ f ∈ l, f.path = x) ∨ ∃ f ∈ l.take t.1.toNat, f.path = x) (μ := fun t => (l.length - t.1).toNat) ?_ ⟨by simp, by simp, by simpa using i2, by simpa using i3⟩
    rintro ⟨j, acc2⟩ ⟨j0, j1, j2, j3⟩
    dsimp only at j0 j1 j2 j3 ⊢
    simp only [ok_if, ok_up, ok_bd, ok_at, ok_gd, ok_lt, ok_go]
    refine ⟨fun hj => ?_, fun hj => ⟨⟨by omega, by omega⟩, ⟨by omega, by omega, by omega, fun x => ?_⟩, by omega⟩⟩
    · obtain ⟨f, hf⟩ := at_get (l := l) j0 hj
      have hfl := hll.2 f (List.mem_of_getElem? hf)
      refine ⟨j0, f, hf, ⟨by omega, by omega⟩, ⟨by omega, by omega⟩, ⟨by omega, by omega, by simp only [List.length_cons]; omega, fun x => ?_⟩, by omega⟩
      rw [List.mem_cons, j3, take_snoc j0 hf]
      constructor
      · rintro (q | q | ⟨g, hg, q⟩)
        · exact .inr ⟨f, by simp, q.symm⟩
        · exact .inl q
        · exact .inr ⟨g, List.mem_append_left _ hg, q⟩
      · rintro (q | ⟨g, hg, q⟩)
        · exact .inr (.inl q)
        · rcases List.mem_append.1 hg with h | h
          · exact .inr (.inr ⟨g, h, q⟩)
          · rw [List.mem_singleton.1 h] at q; exact .inl q.symm
    · rw [List.take_of_length_le (l := l) (i := j.toNat) (by omega)] at j3
      rw [j3, take_snoc i0 hz]
      constructor
      · rintro (⟨m, hm, q⟩ | q)
        · exact ⟨m, List.mem_append_left _ hm, q⟩
        · exact ⟨l, List.mem_append_right _ (List.mem_singleton_self _), q⟩
      · rintro ⟨m, hm, q⟩
        rcases List.mem_append.1 hm with h | h
        · exact .inl ⟨m, h, q⟩
        · rw [List.mem_singleton.1 h] at q; exact .inr q
  · rw [List.take_of_length_le (by omega)] at i3
    simp only [ok_gd, ok_lt]
    refine ⟨by omega, ?_⟩
    rw [clipS14, Option.bind_some, ok_some]
    exact ⟨⟨keysS_lt acc, fun x => (keysS_mem acc x).trans (i3 x)⟩, by have := keysS_len acc; omega⟩
theorem clipD14 (l : List FilesDelta) : Sh.slices_Clip_files_Delta_files_Delta l = some l := by
  unfold Sh.slices_Clip_files_Delta_files_Delta
  simp [lt, gd]
/-- what became of a path's file: 65 it came, 68 it went, 77 it is another one; 32 nothing -/
def whatS (a b : List FilesFile) (p : List UInt8) : Nat := match gt a p, gt b p with
  | none, none => 32
  | none, some _ => 65
  | some _, none => 68
  | some f, some g => if f = g then 32 else 77
def delta (a b : List FilesFile) (p : List UInt8) : Option FilesDelta := if whatS a b p = 32 then none else some ⟨p, [UInt8.ofNat (whatS a b p)]⟩
/-- of a path of one of the two: what Diff says -/
theorem diff14 {a b : List FilesFile} (ha : R a) (hb : R b) (la : a.length ≤ 1000000) (lb : b.length ≤ 1000000) (pa : ∀ f ∈ a, f.path.length ≤ 1000000) (pb : ∀ f ∈ b, f.path.length ≤ 1000000) : Ok (Sh.files_Diff a b) fun d => ∃ ps, PathsOf [a, b] ps ∧ d = ps.filterMap (delta a b) ∧ d.length ≤ 8000000 := by
  unfold Sh.files_Diff
  simp only [ok_lt]
  refine ok_bd.2 ((paths14 [a, b] (by simp) (fun l hl => by
    rcases List.mem_cons.1 hl with q | q
    · rw [q]; exact ⟨la, pa⟩
    · rw [List.mem_singleton.1 q]; exact ⟨lb, pb⟩)).mono fun ps ⟨hps, hpl⟩ => ?_)
  refine ok_iter (I := fun t => 0 ≤ t.2 ∧ t.2 ≤ ps.length ∧ t.1 = (ps.take t.2.toNat).filterMap (delta a b)) (μ := fun t => (ps.length - t.2).toNat) ?_ ⟨by simp, by simp, by simp⟩
  rintro ⟨o, i⟩ ⟨i0, i1, i2⟩
  dsimp only at i0 i1 i2 ⊢
  have hol : o.length ≤ i.toNat := by
    have := List.length_filterMap_le (delta a b) (ps.take i.toNat)
    rw [List.length_take] at this
    rw [i2]; omega
  simp only [ok_if, ok_up]
  refine ⟨fun hi => ?_, fun hi => ?_⟩
  · obtain ⟨p, hp⟩ := at_get (l := ps) i0 hi
    have hmem := (hps.2 p).1 (List.mem_of_getElem? hp)
    have hsn : (ps.take (i + 1).toNat).filterMap (delta a b) = (ps.take i.toNat).filterMap (delta a b) ++ (delta a b p).toList := by
      rw [take_snoc i0 hp, List.filterMap_append]
      cases h : delta a b p <;> simp [h]
    rw [ok_bd, ok_at]
    refine ⟨i0, p, hp, ?_⟩
    rw [get14 ha (by omega) p, Option.bind_some, get14 hb (by omega) p, Option.bind_some]
    simp only [ok_if, ok_gd, ok_lt, ok_go]
    cases hga : gt a p with
    | none =>
      have hgb : ∃ g, gt b p = some g := by
        obtain ⟨l, hl, f, hf, q⟩ := hmem
        rcases List.mem_cons.1 hl with e | e
        · rw [e] at hf; exact absurd q (gt_none.1 hga f hf)
        · rw [List.mem_singleton.1 e] at hf; exact ⟨f, (gt_some hb).2 ⟨hf, q⟩⟩
      obtain ⟨g, hgb⟩ := hgb
      have hd : delta a b p = some ⟨p, [65]⟩ := by unfold delta whatS; rw [hga, hgb]; rfl
      rw [getF_none hga]
      refine ⟨fun _ => ⟨by simp; omega, ⟨by omega, by omega⟩, ⟨by omega, by omega, ?_⟩, by omega⟩, fun h => absurd rfl h⟩
      rw [hsn, hd, i2]; rfl
    | some f =>
      rw [getF_some hga]
      refine ⟨fun h => absurd h (by simp), fun _ => ?_⟩
      cases hgb : gt b p with
      | none =>
        have hd : delta a b p = some ⟨p, [68]⟩ := by unfold delta whatS; rw [hga, hgb]; rfl
        rw [getF_none hgb]
        refine ⟨fun _ => ⟨by simp; omega, ⟨by omega, by omega⟩, ⟨by omega, by omega, ?_⟩, by omega⟩, fun h => absurd rfl h⟩
        rw [hsn, hd, i2]; rfl
      | some g =>
        rw [getF_some hgb]
        refine ⟨fun h => absurd h (by simp), fun _ => ⟨fun h => ⟨⟨by omega, by omega⟩, ⟨by omega, by omega, ?_⟩, by omega⟩, fun h => ⟨by simp; omega, ⟨by omega, by omega⟩, ⟨by omega, by omega, ?_⟩, by omega⟩⟩⟩
        · have hfg : f = g := by cases f; cases g; simpa using h
          have hd : delta a b p = none := by unfold delta whatS; rw [hga, hgb]; simp [hfg]
          rw [hsn, hd, i2]; simp
        · have hfg : f ≠ g := fun e => h (by rw [e]; exact ⟨rfl, rfl, rfl⟩)
          have hd : delta a b p = some ⟨p, [77]⟩ := by unfold delta whatS; rw [hga, hgb]; simp [hfg]
          rw [hsn, hd, i2]; rfl
  · rw [clipD14, Option.bind_some, ok_some]
    refine ⟨ps, hps, ?_, by omega⟩
    rw [i2, List.take_of_length_le (by omega)]
end Go.S
end

section
/- Plain laws on rows of files: RowDiffs. No program in sight. -/
namespace Go.S
open Go
theorem filter2_len {α : Type} (p q : α → Bool) (l : List α) (h : ∀ z ∈ l, p z = true → q z = false) : (l.filter p).length + (l.filter q).length ≤ l.length := by
  induction l with
  | nil => simp
  | cons a r ih =>
    have ih' := ih fun z hz => h z (List.mem_cons_of_mem _ hz)
    have ha := h a (List.mem_cons_self ..)
    cases hp : p a with
    | true => have hq := ha hp; simp [List.filter_cons, hp, hq]; omega
    | false => cases hq : q a <;> simp [List.filter_cons, hp, hq] <;> omega
theorem putF_len1 (x : List FilesFile) (f : FilesFile) : (putF x f).length ≤ x.length + 1 := by
  unfold putF
  have := filter2_len (fun z : FilesFile => decide (z.path < f.path)) (fun z => decide (f.path < z.path)) x (fun z _ h => by
    have h' : z.path < f.path := of_decide_eq_true h
    exact decide_eq_false fun q => List.lt_irrefl _ (List.lt_trans h' q))
  simp only [List.length_append, List.length_cons, List.length_nil]; omega
theorem gt_put {l : List FilesFile} (h : R l) (f : FilesFile) (q : List UInt8) : gt (putF l f) q = if q = f.path then some f else gt l q := by
  have hR := putF_R h f
  split
  · next e => exact (gt_some hR).2 ⟨(putF_mem l f f).2 (.inl rfl), e.symm⟩
  · next e =>
    cases hg : gt l q with
    | none =>
      refine gt_none.2 fun z hz hq => ?_
      rcases (putF_mem l f z).1 hz with a | ⟨a, _⟩
      · rw [a] at hq; exact e hq.symm
      · exact gt_none.1 hg z a hq
    | some z =>
      obtain ⟨a, b⟩ := (gt_some h).1 hg
      exact (gt_some hR).2 ⟨(putF_mem l f z).2 (.inr ⟨a, fun c => e (b.symm.trans c)⟩), b⟩
theorem gt_cut {l : List FilesFile} (h : R l) (p q : List UInt8) : gt (l.filter fun z => !decide (z.path = p)) q = if q = p then none else gt l q := by
  have hR : R (l.filter fun z => !decide (z.path = p)) := h.sub List.filter_sublist
  split
  · next e =>
    refine gt_none.2 fun z hz hq => ?_
    have := (List.mem_filter.1 hz).2
    rw [hq, e] at this
    simp at this
  · next e =>
    cases hg : gt l q with
    | none => exact gt_none.2 fun z hz hq => gt_none.1 hg z (List.mem_filter.1 hz).1 hq
    | some z =>
      obtain ⟨a, b⟩ := (gt_some h).1 hg
      exact (gt_some hR).2 ⟨List.mem_filter.2 ⟨a, by simp [b, e]⟩, b⟩
theorem what_32 {a b : List FilesFile} {p : List UInt8} : whatS a b p = 32 ↔ gt a p = gt b p := by
  unfold whatS
  cases gt a p with
  | none => cases gt b p <;> simp
  | some f =>
    cases gt b p with
    | none => simp
    | some g =>
      by_cases h : f = g
      · simp [h]
      · simp [h]
theorem what_68 {a b : List FilesFile} {p : List UInt8} : whatS a b p = 68 ↔ gt a p ≠ none ∧ gt b p = none := by
  unfold whatS
  cases gt a p with
  | none => cases gt b p <;> simp
  | some f =>
    cases gt b p with
    | none => simp
    | some g => by_cases h : f = g <;> simp [h]
theorem what_rng (a b : List FilesFile) (p : List UInt8) : whatS a b p = 32 ∨ whatS a b p = 65 ∨ whatS a b p = 68 ∨ whatS a b p = 77 := by
  unfold whatS
  cases gt a p with
  | none => cases gt b p <;> simp
  | some f =>
    cases gt b p with
    | none => simp
    | some g => by_cases h : f = g <;> simp [h]
theorem paths_sym {a b : List FilesFile} {ps qs : List (List UInt8)} (h : PathsOf [a, b] ps) (h' : PathsOf [b, a] qs) : ps = qs :=
  strict_ext h.1 h'.1 fun x => by
    rw [h.2, h'.2]
    constructor <;> rintro ⟨l, hl, q⟩ <;> refine ⟨l, ?_, q⟩ <;> simp at hl ⊢ <;> exact hl.symm
theorem paths_same {ls : List (List FilesFile)} {ps qs : List (List UInt8)} (h : PathsOf ls ps) (h' : PathsOf ls qs) : ps = qs := strict_ext h.1 h'.1 fun x => (h.2 x).trans (h'.2 x).symm
theorem gt_out {a b : List FilesFile} {ps : List (List UInt8)} (h : PathsOf [a, b] ps) {p : List UInt8} (hp : p ∉ ps) : gt a p = none ∧ gt b p = none := by
  refine ⟨gt_none.2 fun z hz e => hp ((h.2 p).2 ⟨a, by simp, z, hz, e⟩), gt_none.2 fun z hz e => hp ((h.2 p).2 ⟨b, by simp, z, hz, e⟩)⟩
theorem delta_some {a b : List FilesFile} {p : List UInt8} {d : FilesDelta} (h : delta a b p = some d) : whatS a b p ≠ 32 ∧ d = ⟨p, [UInt8.ofNat (whatS a b p)]⟩ := by
  unfold delta at h
  split at h
  · cases h
  · next q => exact ⟨q, (Option.some.inj h).symm⟩
theorem delta_none {a b : List FilesFile} {p : List UInt8} : delta a b p = none ↔ gt a p = gt b p := by
  unfold delta
  rw [← what_32]
  split
  · next h => simp [h]
  · next h => simp [h]
/-- where nothing differs the rows are one -/
theorem diff_nil {a b : List FilesFile} (ha : R a) (hb : R b) {ps : List (List UInt8)} (h : PathsOf [a, b] ps) : ps.filterMap (delta a b) = [] ↔ a = b := by
  rw [List.filterMap_eq_nil_iff]
  constructor
  · intro q
    refine ha.extg hb fun p => ?_
    by_cases hp : p ∈ ps
    · exact delta_none.1 (q p hp)
    · have := gt_out h hp
      rw [this.1, this.2]
  · intro q p _
    exact delta_none.2 (by rw [q])
theorem rowDiffs_ok (a b : List FilesFile) : Sh.rectolaw14_RowDiffs a b = some true := by
  apply Ok.eq
  unfold Sh.rectolaw14_RowDiffs
  rw [known14, Option.bind_some, if_neg (by simp)]
  refine ok_jnP (fun x => x = false → a.length ≤ 80 ∧ b.length ≤ 80 ∧ GoodF a ∧ GoodF b) ?_ ?_
  · intro x hx
    simp only [ok_if, ok_some]
    refine ⟨fun _ => trivial, fun hxf => ?_⟩
    obtain ⟨la, lb, ga, gb⟩ := hx (by simpa using hxf)
    have pa : ∀ f ∈ a, f.path.length ≤ 1000000 := fun f hf => by have := checkP_len (ga.v f hf).1; omega
    have pb : ∀ f ∈ b, f.path.length ≤ 1000000 := fun f hf => by have := checkP_len (gb.v f hf).1; omega
    refine ok_bd.2 ((diff14 ga.r gb.r (by omega) (by omega) pa pb).mono fun d ⟨ps, hps, hd, hdl⟩ => ?_)
    refine ok_iter (I := fun t => 0 ≤ t.2 ∧ t.2 ≤ d.length ∧ R t.1 ∧ (t.1.length : Int) ≤ 80 + t.2 ∧ ∀ p, gt t.1 p = if p ∈ (d.take t.2.toNat).map (·.path) then gt b p else gt a p) (μ := fun t => (d.length - t.2).toNat) ?_ ⟨by simp, by simp, ga.r, by simp; omega, by simp⟩
    rintro ⟨r, i⟩ ⟨i0, i1, i2, i3, i4⟩
    dsimp only at i0 i1 i2 i3 i4 ⊢
    simp only [ok_if, ok_up]
    refine ⟨fun hi => ?_, fun hi => ?_⟩
    · obtain ⟨δ, hδ⟩ := at_get (l := d) i0 hi
      have hmem := List.mem_of_getElem? hδ
      rw [hd] at hmem
      obtain ⟨p, _, hp⟩ := List.mem_filterMap.1 hmem
      obtain ⟨hw, he⟩ := delta_some hp
      have hpath : δ.path = p := by rw [he]
      have hwhat : δ.what = [UInt8.ofNat (whatS a b p)] := by rw [he]
      have hsn : (d.take (i + 1).toNat).map (·.path) = (d.take i.toNat).map (·.path) ++ [p] := by rw [take_snoc i0 hδ, List.map_append, List.map_cons, List.map_nil, hpath]
      refine ok_jnP (fun u => R u ∧ (u.length : Int) ≤ 80 + i + 1 ∧ ∀ q, gt u q = if q ∈ (d.take (i + 1).toNat).map (·.path) then gt b q else gt a q) ?_ ?_
      · rintro u ⟨u1, u2, u3⟩
        simp only [ok_gd, ok_go]
        exact ⟨⟨by omega, by omega⟩, ⟨by omega, by omega, u1, by omega, u3⟩, by omega⟩
      · intro K hK
        rw [ok_bd, ok_at]
        refine ⟨i0, δ, hδ, ?_⟩
        rw [get14 gb.r (by omega) δ.path, Option.bind_some, ok_bd, ok_at]
        refine ⟨i0, δ, hδ, ?_⟩
        rw [hpath, hwhat]
        simp only [ok_if, ok_up]
        refine ⟨fun h68 => ?_, fun h68 => ?_⟩
        · have h : whatS a b p = 68 := by
            rcases what_rng a b p with q | q | q | q
            · exact absurd q hw
            · rw [q] at h68; exact absurd h68 (by decide)
            · exact q
            · rw [q] at h68; exact absurd h68 (by decide)
          have hgb := (what_68.1 h).2
          rw [getF_none hgb]
          refine ⟨fun h => absurd h (by simp), fun _ => ?_⟩
          rw [ok_bd, ok_at]
          refine ⟨i0, δ, hδ, ?_⟩
          rw [hpath, cut14 p (by omega), Option.bind_some]
          have hl := List.length_filter_le (fun z : FilesFile => !decide (z.path = p)) r
          refine hK _ ⟨i2.sub List.filter_sublist, by omega, fun q => ?_⟩
          rw [gt_cut i2 p q, hsn, i4 q]
          by_cases hq : q = p
          · subst hq; simp [hgb]
          · simp [hq]
        · have h : gt b p ≠ none := fun hn => by
            have : whatS a b p = 68 := what_68.2 ⟨fun q => hw (what_32.2 (by rw [q, hn])), hn⟩
            rw [this] at h68; exact h68 rfl
          cases hgb : gt b p with
          | none => exact absurd hgb h
          | some g =>
            have hgp := ((gt_some gb.r).1 hgb).2
            rw [getF_some hgb]
            refine ⟨fun h => absurd h (by simp), fun _ => ?_⟩
            rw [show (⟨(g, true).1.path, (g, true).1.mode, (g, true).1.data⟩ : FilesFile) = g from rfl, put14 i2 (by omega) g, Option.bind_some]
            have hl := putF_len1 r g
            refine hK _ ⟨putF_R i2 g, by omega, fun q => ?_⟩
            rw [gt_put i2 g q, hsn, i4 q, hgp]
            by_cases hq : q = p
            · subst hq; simp [hgb]
            · simp [hq]
    · rw [List.take_of_length_le (by omega)] at i4
      have hrb : r = b := i2.extg gb.r fun p => by
        rw [i4 p]
        split
        · rfl
        · next hn =>
          by_cases hp : p ∈ ps
          · cases hdp : delta a b p with
            | none => exact delta_none.1 hdp
            | some δ =>
              refine absurd (List.mem_map.2 ⟨δ, ?_, ?_⟩) hn
              · rw [hd]; exact List.mem_filterMap.2 ⟨p, hp, hdp⟩
              · rw [(delta_some hdp).2]
          · have := gt_out hps hp
            rw [this.1, this.2]
      rw [same14 r b (by omega), Option.bind_some, if_pos (by simp [hrb])]
      refine ok_bd.2 ((diff14 ga.r ga.r (by omega) (by omega) pa pa).mono fun d1 ⟨ps1, hps1, hd1, _⟩ => ?_)
      have hz : d1 = [] := by rw [hd1]; exact (diff_nil ga.r ga.r hps1).2 rfl
      rw [if_pos (by rw [hz]; rfl)]
      refine ok_bd.2 ((diff14 gb.r ga.r (by omega) (by omega) pb pa).mono fun d2 ⟨ps2, hps2, hd2, _⟩ => ?_)
      rw [ok_some]
      have hpp := paths_sym hps hps2
      subst hpp
      have : d2.length = d.length := by
        rw [hd2, hd, List.length_filterMap_eq_countP, List.length_filterMap_eq_countP]
        congr 1
        funext p
        cases h1 : delta a b p with
        | none => rw [delta_none.2 (delta_none.1 h1).symm]
        | some _ =>
          cases h2 : delta b a p with
          | none => rw [delta_none.2 (delta_none.1 h2).symm] at h1; cases h1
          | some _ => rfl
      rw [this]
      exact decide_eq_true rfl
  · intro K hK
    refine ok_bd.2 ((few14 a).mono fun x hx => ?_)
    simp only [ok_if]
    refine ⟨fun _ => hK _ fun h => (by cases h), fun h => ok_bd.2 ((few14 b).mono fun y hy => ?_)⟩
    obtain ⟨a1, a2⟩ := hx (by simpa using h)
    simp only [ok_if]
    refine ⟨fun _ => hK _ fun h => (by cases h), fun h => ?_⟩
    obtain ⟨b1, b2⟩ := hy (by simpa using h)
    refine ok_bd.2 ((check14 (by omega) (fun z hz => by have := a2 z hz; omega)).mono fun e he => ?_)
    simp only [ok_if]
    refine ⟨fun h1 => ok_bd.2 ((check14 (by omega) (fun z hz => by have := b2 z hz; omega)).mono fun e2 he2 => hK _ fun q => ⟨a1, b1, (he.1 h1).2, (he2.1 (by simpa using q)).2⟩), fun _ => hK _ fun h => (by cases h)⟩
end Go.S
end

section
/- Plain laws on rows of files: RowTwo, against the reference. No program in sight. -/
namespace Go.S
open Go
def toF (f : FilesFile) : Rectoref14File := ⟨f.path, f.mode, f.data⟩
def ofF (f : Rectoref14File) : FilesFile := ⟨f.path, f.mode, f.data⟩
theorem mapF_at {l : List FilesFile} {i : Nat} {z : FilesFile} (h : l[i]? = some z) : (l.map toF)[i]? = some (toF z) := by rw [List.getElem?_map, h]; rfl
theorem toF_inj {a b : List FilesFile} (h : a.map toF = b.map toF) : a = b := by
  have := congrArg (List.map ofF) h
  rw [List.map_map, List.map_map, show ofF ∘ toF = id from rfl, List.map_id, List.map_id] at this
  exact this
theorem of14 (l : List FilesFile) (hb : l.length ≤ 1000000000) : Sh.rectolaw14_Of l = some (l.map toF) := by
  apply Ok.eq
  unfold Sh.rectolaw14_Of
  refine ok_iter (I := fun t => 0 ≤ t.2 ∧ t.2 ≤ l.length ∧ t.1 = (l.take t.2.toNat).map toF) (μ := fun t => (l.length - t.2).toNat) ?_ ⟨by simp, by simp, by simp⟩
  rintro ⟨o, i⟩ ⟨i0, i1, i2⟩
  dsimp only at i0 i1 i2 ⊢
  have hol : o.length ≤ i.toNat := by rw [i2, List.length_map, List.length_take]; omega
  simp only [ok_if, ok_up, ok_bd, ok_at, ok_lt, ok_gd, ok_go, ok_some]
  refine ⟨fun hi => ?_, fun hi => ?_⟩
  · obtain ⟨z, hz⟩ := at_get (l := l) i0 hi
    refine ⟨i0, z, hz, i0, z, hz, i0, z, hz, by simp; omega, ⟨by omega, by omega⟩, ⟨by omega, by omega, ?_⟩, by omega⟩
    rw [i2, take_snoc i0 hz, List.map_append]; rfl
  · rw [i2, List.take_of_length_le (by omega)]
theorem R_snoc {x : List FilesFile} {i : Int} (i0 : 0 ≤ i) {z : FilesFile} (hz : x[i.toNat]? = some z) (hg : R (x.take i.toNat)) (hr : ∀ y, 0 < i → x[(i - 1).toNat]? = some y → y.path < z.path) : R (x.take (i + 1).toNat) := by
  rw [take_snoc i0 hz]
  refine List.pairwise_append.2 ⟨hg, List.pairwise_singleton _ _, fun a ha b hb => ?_⟩
  rw [List.mem_singleton.1 hb]
  have hpos : 0 < i := by
    rcases Int.lt_or_le 0 i with q | q
    · exact q
    · rw [show i.toNat = 0 by omega] at ha; simp at ha
  have hil := get_lt hz
  obtain ⟨y, hy⟩ := at_get (l := x) (i := i - 1) (by omega) (by omega)
  have hyz := hr y hpos hy
  have he : x.take i.toNat = x.take (i - 1).toNat ++ [y] := by
    have := take_snoc (l := x) (i := i - 1) (by omega) hy
    rwa [show i - 1 + 1 = i by omega] at this
  rw [he] at ha
  rcases List.mem_append.1 ha with q | q
  · have hR := hg
    rw [he] at hR
    have := (List.pairwise_append.1 hR).2.2 a q y (List.mem_singleton_self _)
    exact List.lt_trans this hyz
  · rw [List.mem_singleton.1 q]; exact hyz
theorem rises14 (l : List FilesFile) (hb : l.length ≤ 1000000000) : Ok (Sh.rectolaw14_Rises l) fun b => b = true → R l := by
  unfold Sh.rectolaw14_Rises
  refine ok_iter (I := fun i => 1 ≤ i ∧ i ≤ l.length + 1 ∧ R (l.take i.toNat)) (μ := fun i => (l.length - i).toNat) ?_ ⟨by omega, by omega, ?_⟩
  · rintro i ⟨i0, i1, i2⟩
    simp only [ok_if, ok_up, ok_gd, ok_go, ok_some, ok_bd, ok_at, Go.Proofs.bytesLess_eq]
    refine ⟨fun hi => ?_, fun hi _ => by rw [List.take_of_length_le (by omega)] at i2; exact i2⟩
    obtain ⟨y, hy⟩ := at_get (l := l) (i := i - 1) (by omega) (by omega)
    obtain ⟨z, hz⟩ := at_get (l := l) (i := i) (by omega) hi
    refine ⟨⟨by omega, by omega⟩, by omega, y, hy, by omega, z, hz, fun _ h => (by cases h), fun h => ⟨⟨by omega, by omega⟩, ⟨by omega, by omega, R_snoc (by omega) hz i2 fun w _ hw => ?_⟩, by omega⟩⟩
    rw [hy] at hw; cases hw
    simpa using h
  · cases l <;> simp [R]
abbrev loF (x : List FilesFile) (f : FilesFile) : List FilesFile := x.filter (fun z => decide (z.path < f.path))
abbrev hiF (x : List FilesFile) (f : FilesFile) : List FilesFile := x.filter (fun z => decide (f.path < z.path))
theorem putr14 {x : List FilesFile} (h : R x) (hb : x.length ≤ 100000000) (f : FilesFile) : Sh.rectoref14_Put (x.map toF) (toF f) = some ((putF x f).map toF) := by
  apply Ok.eq
  unfold Sh.rectoref14_Put
  refine ok_iter (I := fun t => 0 ≤ t.2.2 ∧ t.2.2 ≤ x.length ∧ t.1 = (loF (x.take t.2.2.toNat) f ++ (if t.2.1 = true then [f] else []) ++ hiF (x.take t.2.2.toNat) f).map toF ∧ (t.2.1 = false → ∀ z ∈ x.take t.2.2.toNat, z.path < f.path) ∧ (t.2.1 = true → ∀ z ∈ x.drop t.2.2.toNat, f.path < z.path)) (μ := fun t => (x.length - t.2.2).toNat) ?_ ⟨by simp, by simp, by simp, by simp, by simp⟩
  rintro ⟨o, u, i⟩ ⟨i0, i1, i2, i3, i4⟩
  dsimp only at i0 i1 i2 i3 i4 ⊢
  have hl1 : (loF (x.take i.toNat) f).length ≤ _ := List.length_filter_le (fun z : FilesFile => decide (z.path < f.path)) (x.take i.toNat)
  have hl2 : (hiF (x.take i.toNat) f).length ≤ _ := List.length_filter_le (fun z : FilesFile => decide (f.path < z.path)) (x.take i.toNat)
  have hl4 : (loF (x.take i.toNat) f).length + (hiF (x.take i.toNat) f).length ≤ (x.take i.toNat).length := filter2_len _ _ _ (fun z _ h => by
    have h' : z.path < f.path := of_decide_eq_true h
    exact decide_eq_false fun q => List.lt_irrefl _ (List.lt_trans h' q))
  have hl3 : (x.take i.toNat).length ≤ x.length := by rw [List.length_take]; omega
  have hol : ∀ (v : Bool), ((loF (x.take i.toNat) f ++ (if v = true then [f] else []) ++ hiF (x.take i.toNat) f).map toF).length ≤ 2 * x.length + 1 := by
    intro v
    rw [List.length_map, List.length_append, List.length_append]
    cases v <;> simp only [if_true, if_false, Bool.false_eq_true, List.length_cons, List.length_nil] <;> omega
  simp only [ok_if, ok_up, List.length_map]
  refine ⟨fun hi => ?_, fun hi => ?_⟩
  · obtain ⟨z, hz⟩ := at_get (l := x) i0 hi
    have hzm := mapF_at hz
    have hdz : x.drop i.toNat = z :: x.drop (i + 1).toNat := by rw [show (i + 1).toNat = i.toNat + 1 by omega]; exact drop_cons' hz
    have hgz : ∀ y ∈ x.drop (i + 1).toNat, z.path < y.path := by rw [show (i + 1).toNat = i.toNat + 1 by omega]; exact h.drop_gt hz
    have hsn := take_snoc i0 hz
    refine ok_jnP (fun w => w.1 = (loF (x.take (i + 1).toNat) f ++ (if w.2 = true then [f] else []) ++ hiF (x.take (i + 1).toNat) f).map toF ∧ (w.2 = false → ∀ z ∈ x.take (i + 1).toNat, z.path < f.path) ∧ (w.2 = true → ∀ z ∈ x.drop (i + 1).toNat, f.path < z.path)) ?_ ?_
    · rintro ⟨w1, w2⟩ ⟨a1, a2, a3⟩
      simp only [ok_gd, ok_go]
      exact ⟨⟨by omega, by omega⟩, ⟨by omega, by omega, a1, a2, a3⟩, by omega⟩
    · intro K7 hK7
      refine ok_jnP (fun w => w.1 = (loF (x.take i.toNat) f ++ (if w.2 = true then [f] else []) ++ hiF (x.take i.toNat) f).map toF ∧ (w.2 = false → z.path < f.path ∧ ∀ z ∈ x.take i.toNat, z.path < f.path) ∧ (w.2 = true → ¬ z.path < f.path)) ?_ ?_
      · rintro ⟨w1, w2⟩ ⟨a1, a2, a3⟩
        dsimp only at a1 a2 a3 ⊢
        have hw := hol w2
        rw [← a1] at hw
        simp only [ok_bd, ok_at, ok_if, ok_lt, ok_gd]
        refine ⟨i0, toF z, hzm, fun he => ?_, fun he => ⟨i0, toF z, hzm, by simp; omega, ?_⟩⟩
        · have he : z.path = f.path := he
          have hw2 : w2 = true := by
            cases w2 with
            | true => rfl
            | false => have := (a2 rfl).1; rw [he] at this; exact absurd this (List.lt_irrefl _)
          refine hK7 _ ⟨?_, fun q => absurd q (by rw [hw2]; simp), fun _ y hy => (by rw [← he]; exact hgz y hy)⟩
          rw [a1, hsn]
          simp [List.filter_append, he, List.lt_irrefl]
        · have he : ¬ z.path = f.path := he
          cases w2 with
          | true =>
            have hnz := a3 rfl
            have hfz : f.path < z.path := by
              by_cases q : f.path < z.path
              · exact q
              · exact absurd (List.le_antisymm (List.not_lt.1 q) (List.not_lt.1 hnz)) he
            refine hK7 _ ⟨?_, fun q => (by cases q), fun _ y hy => List.lt_trans hfz (hgz y hy)⟩
            rw [a1, hsn]
            simp [List.filter_append, hnz, hfz, toF]
          | false =>
            obtain ⟨b1, b2⟩ := a2 rfl
            have hnf : ¬ f.path < z.path := fun q => List.lt_irrefl _ (List.lt_trans q b1)
            have hnil : hiF (x.take i.toNat) f = [] := List.filter_eq_nil_iff.2 fun y hy => by
              have := b2 y hy
              simp only [decide_eq_true_eq]
              exact fun q => List.lt_irrefl _ (List.lt_trans q this)
            refine hK7 _ ⟨?_, fun _ y hy => ?_, fun q => (by cases q)⟩
            · rw [a1, hsn]
              have hnil' : (x.take i.toNat).filter (fun z => decide (f.path < z.path)) = [] := hnil
              simp [List.filter_append, b1, hnf, hnil', toF]
            · rw [hsn] at hy
              rcases List.mem_append.1 hy with q | q
              · exact b2 y q
              · rw [List.mem_singleton.1 q]; exact b1
      · intro K10 hK10
        refine ok_jnP (fun w => w = true ↔ u = false ∧ ¬ z.path < f.path) ?_ ?_
        · intro w hw
          have hwo := hol u
          rw [← i2] at hwo
          simp only [ok_if, ok_lt, ok_gd]
          refine ⟨fun q => ?_, fun q => ?_⟩
          · obtain ⟨hu, hnz⟩ := hw.1 q
            refine ⟨by simp; omega, hK10 _ ⟨?_, fun q => (by cases q), fun _ => hnz⟩⟩
            have hnil : (x.take i.toNat).filter (fun z => decide (f.path < z.path)) = [] := List.filter_eq_nil_iff.2 fun y hy => by
              have := i3 hu y hy
              simp only [decide_eq_true_eq]
              exact fun q => List.lt_irrefl _ (List.lt_trans q this)
            rw [i2, hu]
            simp [hnil, toF]
          · refine hK10 _ ⟨i2, fun hu => ?_, fun hu => ?_⟩
            · refine ⟨?_, i3 hu⟩
              by_cases hz' : z.path < f.path
              · exact hz'
              · exact absurd (hw.2 ⟨hu, hz'⟩) q
            · have := i4 hu z (by rw [hdz]; exact List.mem_cons_self ..)
              exact fun q => List.lt_irrefl _ (List.lt_trans q this)
        · intro K12 hK12
          simp only [ok_if, ok_bd, ok_at, Go.Proofs.bytesLess_eq]
          refine ⟨fun hu => ⟨i0, toF z, hzm, hK12 _ ?_⟩, fun hu => hK12 _ ?_⟩
          · have : (toF z).path = z.path := rfl
            have h2 : (toF f).path = f.path := rfl
            rw [this, h2]
            simp at hu
            simp [hu]
          · simp at hu
            simp [hu]
  · rw [List.take_of_length_le (by omega)] at i2 i3
    have hw := hol u
    rw [List.take_of_length_le (l := x) (by omega)] at hw
    rw [← i2] at hw
    simp only [ok_lt, ok_gd, ok_some]
    unfold putF
    cases u with
    | true =>
      refine ⟨fun h => (by simp at h), fun _ => ?_⟩
      rw [i2]; simp
    | false =>
      have hnil : x.filter (fun z => decide (f.path < z.path)) = [] := List.filter_eq_nil_iff.2 fun y hy => by
        have := i3 rfl y hy
        simp only [decide_eq_true_eq]
        exact fun q => List.lt_irrefl _ (List.lt_trans q this)
      refine ⟨fun _ => ⟨by simp; omega, ?_⟩, fun h => absurd rfl h⟩
      rw [i2]; simp [hnil, toF]
theorem getr14 (x : List FilesFile) (hb : x.length ≤ 1000000000) (p : List UInt8) : Sh.rectoref14_Get (x.map toF) p = some (toF (getF x p).1, (getF x p).2) := by
  apply Ok.eq
  unfold Sh.rectoref14_Get
  refine ok_iter (I := fun i => 0 ≤ i ∧ i ≤ x.length ∧ ∀ z ∈ x.take i.toNat, z.path ≠ p) (μ := fun i => (x.length - i).toNat) ?_ ⟨by omega, by omega, by simp⟩
  rintro i ⟨i0, i1, i2⟩
  simp only [ok_if, ok_up, ok_bd, ok_at, ok_gd, ok_go, ok_some, List.length_map]
  refine ⟨fun hi => ?_, fun hi => ?_⟩
  · obtain ⟨z, hz⟩ := at_get (l := x) i0 hi
    refine ⟨i0, toF z, mapF_at hz, fun hp => ⟨i0, toF z, mapF_at hz, ?_⟩, fun hp => ⟨⟨by omega, by omega⟩, ⟨by omega, by omega, fun y hy => ?_⟩, by omega⟩⟩
    · have hp : z.path = p := hp
      have : gt x p = some z := by
        unfold gt
        rw [← List.take_append_drop i.toNat x, List.find?_append, List.find?_eq_none.2 (fun y hy => by simpa using i2 y hy), drop_cons' hz]
        simp [hp]
      rw [getF_some this]
    · rw [take_snoc i0 hz] at hy
      rcases List.mem_append.1 hy with q | q
      · exact i2 y q
      · rw [List.mem_singleton.1 q]; exact hp
  · rw [List.take_of_length_le (by omega)] at i2
    rw [getF_none (gt_none.2 i2)]
    try rfl
theorem what14 (a b : List FilesFile) (la : a.length ≤ 1000000000) (lb : b.length ≤ 1000000000) (p : List UInt8) : Sh.rectoref14_What (a.map toF) (b.map toF) p = some (whatS a b p : Int) := by
  unfold Sh.rectoref14_What Sh.rectoref14_Like
  rw [getr14 a la, getr14 b lb]
  simp only [Option.bind_some]
  unfold whatS
  cases ha : gt a p with
  | none =>
    rw [getF_none ha]
    cases hb : gt b p with
    | none => rw [getF_none hb]; simp
    | some g => rw [getF_some hb]; simp
  | some f =>
    rw [getF_some ha]
    cases hb : gt b p with
    | none => rw [getF_none hb]; simp
    | some g =>
      rw [getF_some hb]
      by_cases h : f = g
      · subst h; simp
      · have : ¬ (f.path = g.path ∧ f.mode = g.mode ∧ f.data = g.data) := fun q => h (by cases f; cases g; simpa using q)
        simp [toF, this, h]
theorem samer14 (a b : List FilesFile) (la : a.length ≤ 1000000000) : Sh.rectoref14_Same (a.map toF) (b.map toF) = some (decide (a = b)) := by
  unfold Sh.rectoref14_Same
  have hd : decide (a.map toF = b.map toF) = decide (a = b) := decide_eq_decide.2 ⟨toF_inj, fun h => by rw [h]⟩
  rw [← hd]
  split
  · next h => exact eqloop (fun z w => z.path = w.path ∧ z.mode = w.mode ∧ z.data = w.data) (fun z w => by cases z; cases w; simp) _ _ h (by simp; omega) _ fun i => rfl
  · next h => exact congrArg some (decide_eq_false fun e => h (by rw [e])).symm
theorem texts14 (a b : List (List UInt8)) (la : a.length ≤ 1000000000) : Sh.rectolaw1_Texts a b = some (decide (a = b)) := by
  unfold Sh.rectolaw1_Texts
  have : Sh.rectolaw1_texts a b = some (decide (a = b)) := by
    unfold Sh.rectolaw1_texts
    split
    · next h => exact eqloop (fun z w => z = w) (fun z w => Iff.rfl) _ _ h (by omega) _ fun i => rfl
    · next h => exact congrArg some (decide_eq_false fun e => h (by rw [e])).symm
  rw [this]; rfl
/-- all paths, by the reference -/
theorem pathsr14 (ls : List (List FilesFile)) (hn : ls.length ≤ 8) (hl : ∀ l ∈ ls, l.length ≤ 1000000) : Ok (Sh.rectoref14_Paths (ls.map (·.map toF))) (fun r => PathsOf ls r ∧ r.length ≤ 8000000) := by
  unfold Sh.rectoref14_Paths
  refine ok_iter (I := fun t => 0 ≤ t.2 ∧ t.2 ≤ ls.length ∧ ∃ acc : List FilesFile, t.1 = acc.map toF ∧ R acc ∧ (acc.length : Int) ≤ t.2 * 1000000 ∧ ∀ x, (∃ f ∈ acc, f.path = x) ↔ ∃ l ∈ ls.take t.2.toNat, ∃ f ∈ l, f.path = x) (μ := fun t => (ls.length - t.2).toNat) ?_ ⟨by simp, by simp, [], by simp, by simp [R], by simp, by simp⟩
  rintro ⟨r, i⟩ ⟨i0, i1, acc, rfl, i2, i3, i4⟩
  dsimp only at i0 i1 i3 i4 ⊢
  simp only [ok_if, ok_up, List.length_map]
  refine ⟨fun hi => ?_, fun hi => ?_⟩
  · obtain ⟨l, hz⟩ := at_get (l := ls) i0 hi
    have hll := hl l (List.mem_of_getElem? hz)
    have hzm : (ls.map (·.map toF))[i.toNat]? = some (l.map toF) := by rw [List.getElem?_map, hz]; rfl
    have hmul : (i + 1) * 1000000 = i * 1000000 + 1000000 := by rw [Int.add_mul]; omega
    have hle : i * 1000000 ≤ 8000000 := by omega
    refine ok_iter (I := fun t => 0 ≤ t.2 ∧ t.2 ≤ l.length ∧ ∃ acc : List FilesFile, t.1 = acc.map toF ∧ R acc ∧ (acc.length : Int) ≤ i * 1000000 + t.2 ∧ ∀ x, (∃ f ∈ acc, f.path = x) ↔ (∃ l ∈ ls.take i.toNat, ∃ f ∈ l, f.path = x) ∨ ∃ f ∈ l.take t.2.toNat, f.path = x) (μ := fun t => (l.length - t.2).toNat) ?_ ⟨by simp, by simp, acc, rfl, i2, by simpa using i3, by simpa using i4⟩
    rintro ⟨r2, j⟩ ⟨j0, j1, acc2, rfl, j2, j3, j4⟩
    dsimp only at j0 j1 j3 j4 ⊢
    rw [ok_bd, ok_at]
    refine ⟨i0, _, hzm, ?_⟩
    simp only [ok_if, List.length_map]
    refine ⟨fun hj => ?_, fun hj => ?_⟩
    · obtain ⟨f, hf⟩ := at_get (l := l) j0 hj
      rw [ok_bd, ok_at]
      refine ⟨i0, _, hzm, ?_⟩
      rw [ok_bd, ok_at]
      refine ⟨j0, toF f, mapF_at hf, ?_⟩
      have hput := putr14 j2 (by omega) ⟨f.path, 0, []⟩
      rw [show (⟨(toF f).path, 0, []⟩ : Rectoref14File) = toF ⟨f.path, 0, []⟩ from rfl, hput, Option.bind_some]
      have hpl := putF_len1 acc2 ⟨f.path, 0, []⟩
      simp only [ok_gd, ok_go]
      refine ⟨⟨by omega, by omega⟩, ⟨by omega, by omega, _, rfl, putF_R j2 _, by omega, fun x => ?_⟩, by omega⟩
      rw [take_snoc j0 hf]
      have h4 := j4 x
      constructor
      · rintro ⟨g, hg, q⟩
        rcases (putF_mem _ _ _).1 hg with e | ⟨e, _⟩
        · rw [e] at q; exact .inr ⟨f, by simp, q⟩
        · rcases h4.1 ⟨g, e, q⟩ with e' | ⟨k, hk, e'⟩
          · exact .inl e'
          · exact .inr ⟨k, List.mem_append_left _ hk, e'⟩
      · intro q
        by_cases hx : f.path = x
        · exact ⟨_, (putF_mem _ _ _).2 (.inl rfl), hx⟩
        · have : (∃ l ∈ ls.take i.toNat, ∃ f ∈ l, f.path = x) ∨ ∃ f ∈ l.take j.toNat, f.path = x := by
            rcases q with q | ⟨k, hk, q⟩
            · exact .inl q
            · rcases List.mem_append.1 hk with e | e
              · exact .inr ⟨k, e, q⟩
              · rw [List.mem_singleton.1 e] at q; exact absurd q hx
          obtain ⟨g, hg, e⟩ := h4.2 this
          exact ⟨g, (putF_mem _ _ _).2 (.inr ⟨hg, fun e' => hx (e'.symm.trans e)⟩), e⟩
    · simp only [ok_up, ok_gd, ok_go]
      refine ⟨⟨by omega, by omega⟩, ⟨by omega, by omega, acc2, rfl, j2, by omega, fun x => ?_⟩, by omega⟩
      rw [List.take_of_length_le (l := l) (i := j.toNat) (by omega)] at j4
      rw [j4, take_snoc i0 hz]
      constructor
      · rintro (⟨m, hm, q⟩ | q)
        · exact ⟨m, List.mem_append_left _ hm, q⟩
        · exact ⟨l, List.mem_append_right _ (List.mem_singleton_self _), q⟩
      · rintro ⟨m, hm, q⟩
        rcases List.mem_append.1 hm with h | h
        · exact .inl ⟨m, h, q⟩
        · rw [List.mem_singleton.1 h] at q; exact .inr q
  · rw [List.take_of_length_le (by omega)] at i4
    have hle : i * 1000000 ≤ 8000000 := by omega
    refine ok_iter (I := fun t => 0 ≤ t.2 ∧ t.2 ≤ acc.length ∧ t.1 = (acc.take t.2.toNat).map (·.path)) (μ := fun t => (acc.length - t.2).toNat) ?_ ⟨by simp, by simp, by simp⟩
    rintro ⟨o, j⟩ ⟨j0, j1, j2⟩
    dsimp only at j0 j1 j2 ⊢
    have hol : o.length ≤ j.toNat := by rw [j2, List.length_map, List.length_take]; omega
    simp only [ok_if, ok_up, ok_bd, ok_at, ok_lt, ok_gd, ok_go, ok_some]
    refine ⟨fun hj => ?_, fun hj => ?_⟩
    · obtain ⟨f, hf⟩ := at_get (l := acc) j0 hj
      refine ⟨j0, toF f, mapF_at hf, by simp; omega, ⟨by omega, by omega⟩, ⟨by omega, by omega, ?_⟩, by omega⟩
      rw [j2, take_snoc j0 hf, List.map_append]; rfl
    · rw [List.take_of_length_le (by omega)] at j2
      refine ⟨⟨by rw [j2]; exact List.pairwise_map.2 i2, fun x => ?_⟩, by omega⟩
      rw [← i4, j2, List.mem_map]
theorem rowTwo_ok (a b : List FilesFile) : Sh.rectolaw14_RowTwo a b = some true := by
  apply Ok.eq
  unfold Sh.rectolaw14_RowTwo
  rw [known14, Option.bind_some, if_neg (by simp)]
  refine ok_jnP (fun x => x = false → (a.length ≤ 80 ∧ ∀ f ∈ a, f.path.length ≤ 100) ∧ (b.length ≤ 80 ∧ ∀ f ∈ b, f.path.length ≤ 100) ∧ R a ∧ R b) ?_ ?_
  · intro x hx
    simp only [ok_if, ok_some]
    refine ⟨fun _ => trivial, fun hxf => ?_⟩
    obtain ⟨⟨la, pa⟩, ⟨lb, pb⟩, ga, gb⟩ := hx (by simpa using hxf)
    have pa' : ∀ f ∈ a, f.path.length ≤ 1000000 := fun f hf => by have := pa f hf; omega
    have pb' : ∀ f ∈ b, f.path.length ≤ 1000000 := fun f hf => by have := pb f hf; omega
    rw [of14 a (by omega), Option.bind_some, of14 b (by omega), Option.bind_some, ok_lt]
    have hP : Ok (Sh.rectoref14_Paths [a.map toF, b.map toF]) _ := pathsr14 [a, b] (by simp) (fun l hl => by
      rcases List.mem_cons.1 hl with q | q
      · rw [q]; omega
      · rw [List.mem_singleton.1 q]; omega)
    refine ok_bd.2 (hP.mono fun ps ⟨hps, hpl⟩ => ?_)
    refine ok_bd.2 ((diff14 ga gb (by omega) (by omega) pa' pb').mono fun d ⟨qs, hqs, hd, hdl⟩ => ?_)
    have hpq := paths_same hps hqs
    subst hpq
    refine ok_iter (I := fun t => 0 ≤ t.2 ∧ t.2 ≤ ps.length ∧ t.1 = (((ps.take t.2.toNat).filterMap (delta a b)).length : Int)) (μ := fun t => (ps.length - t.2).toNat) ?_ ⟨by simp, by simp, by simp⟩
    rintro ⟨n, i⟩ ⟨i0, i1, i2⟩
    dsimp only at i0 i1 i2 ⊢
    simp only [ok_if, ok_up]
    refine ⟨fun hi => ?_, fun hi => ?_⟩
    · obtain ⟨p, hp⟩ := at_get (l := ps) i0 hi
      have hsn : (ps.take (i + 1).toNat).filterMap (delta a b) = (ps.take i.toNat).filterMap (delta a b) ++ (delta a b p).toList := by
        rw [take_snoc i0 hp, List.filterMap_append]
        cases h : delta a b p <;> simp [h]
      have hnl : n ≤ i := by
        have := List.length_filterMap_le (delta a b) (ps.take i.toNat)
        rw [List.length_take] at this
        omega
      refine ok_jnP (fun u => u = (((ps.take (i + 1).toNat).filterMap (delta a b)).length : Int)) ?_ ?_
      · intro u hu
        simp only [ok_gd, ok_go]
        exact ⟨⟨by omega, by omega⟩, ⟨by omega, by omega, hu⟩, by omega⟩
      · intro K hK
        rw [ok_bd, ok_at]
        refine ⟨i0, p, hp, ?_⟩
        rw [what14 a b (by omega) (by omega) p, Option.bind_some]
        simp only [ok_if]
        refine ⟨fun h => hK _ ?_, fun h => ?_⟩
        · have : delta a b p = none := by unfold delta; rw [if_pos (by omega)]
          rw [hsn, this, i2]; simp
        · have hδ : delta a b p = some ⟨p, [UInt8.ofNat (whatS a b p)]⟩ := by unfold delta; rw [if_neg (by omega)]
          have hdn : d[n.toNat]? = some ⟨p, [UInt8.ofNat (whatS a b p)]⟩ := by
            rw [hd]
            conv => lhs; rw [← List.take_append_drop i.toNat ps, drop_cons' hp, List.filterMap_append, List.filterMap_cons_some hδ]
            rw [List.getElem?_append_right (by omega), show n.toNat - ((ps.take i.toNat).filterMap (delta a b)).length = 0 by omega]
            rfl
          have hlt := get_lt hdn
          have hrng : whatS a b p ≤ 255 := by rcases what_rng a b p with q | q | q | q <;> omega
          refine ok_jnP (fun u => u = false) ?_ ?_
          · intro u hu
            simp only [ok_if, ok_up, ok_gd]
            refine ⟨fun q => absurd q (by rw [hu]; simp), fun _ => ⟨⟨by omega, by omega⟩, hK _ ?_⟩⟩
            rw [hsn, hδ, i2]; simp
          · intro K2 hK2
            simp only [ok_if, ok_bd, ok_at, ok_gd, ok_lt]
            refine ⟨fun q => absurd q (by omega), fun _ => ⟨by omega, _, hdn, i0, p, hp, fun _ => ⟨by omega, _, hdn, ⟨by omega, by omega⟩, hK2 _ ?_⟩, fun q => absurd rfl q⟩⟩
            simp
    · rw [List.take_of_length_le (by omega), ← hd] at i2
      have hn0 : (n = 0) ↔ a = b := by
        rw [← diff_nil ga gb hps, ← hd, i2]
        simp
      refine ⟨fun _ => ?_, fun q => absurd i2 q⟩
      rw [same14 a b (by omega), Option.bind_some, samer14 a b (by omega), Option.bind_some, if_pos rfl, Option.bind_some, if_pos (decide_eq_decide.2 hn0.symm), ok_lt]
      refine ok_bd.2 ((paths14 [a, b] (by simp) (fun l hl => by
        rcases List.mem_cons.1 hl with q | q
        · rw [q]; exact ⟨by omega, pa'⟩
        · rw [List.mem_singleton.1 q]; exact ⟨by omega, pb'⟩)).mono fun rs ⟨hrs, hrl⟩ => ?_)
      have hpr := paths_same hrs hps
      subst hpr
      rw [texts14 rs rs (by omega), Option.bind_some, ok_some]
      exact decide_eq_true rfl
  · intro K hK
    refine ok_bd.2 ((few14 a).mono fun x hx => ?_)
    simp only [ok_if]
    refine ⟨fun _ => hK _ fun h => (by cases h), fun h => ok_bd.2 ((few14 b).mono fun y hy => ?_)⟩
    have a1 := hx (by simpa using h)
    simp only [ok_if]
    refine ⟨fun _ => hK _ fun h => (by cases h), fun h => ?_⟩
    have b1 := hy (by simpa using h)
    refine ok_bd.2 ((rises14 a (by omega)).mono fun e he => ?_)
    simp only [ok_if]
    refine ⟨fun _ => hK _ fun h => (by cases h), fun h1 => ok_bd.2 ((rises14 b (by omega)).mono fun e2 he2 => hK _ fun q => ⟨a1, b1, he (by simpa using h1), he2 (by simpa using q)⟩)⟩
end Go.S
end
