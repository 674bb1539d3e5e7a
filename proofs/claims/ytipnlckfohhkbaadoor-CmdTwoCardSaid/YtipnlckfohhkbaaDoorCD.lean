/- Part of the proofs of: Each verb of the commands is one, and with nothing behind it is a command just where it needs nothing; no condition. -/
import Derived.Test.YtipnlckfohhkbaaDoorCC
set_option linter.unusedVariables false
set_option linter.unusedSimpArgs false
set_option linter.unusedSectionVars false
section
set_option linter.unusedVariables false
namespace Go.Proofs.YtipnlckfohhkbaaDoor
open Go.RowKit Go.V
open Go.S hiding Str
set_option maxHeartbeats 4000000 in
set_option maxRecDepth 100000 in
theorem cmd_number_ct (c_0 : CmdCmd) {r : Int} (hS : Sh.cmd_number c_0.pl = some r) :
    Ct Tryd.prog 78 [.agg #[str c_0.verb, str c_0.name, i64 c_0.n, str c_0.text, .bool c_0.force, c_0.todo.val]] c_0.todo.ok (Ow.emp) (X := Unit) (fun _ => i64 r) (fun _ => True) (fun _ => Mo.tt) (fun _ => Ow.emp) := by
  refine Ct.of Tryd.func78 rfl (by kernel_rfl) Tryd.ntmps78 (by simp) fun c => ?_
  unfold Sh.cmd_number at hS
  refine VC.seq ?_
  refine VC.region ?_
  refine VL.box (cs := [str c_0.verb, str c_0.name, i64 c_0.n, str c_0.text, .bool c_0.force, c_0.todo.val]) rfl rfl (by decide) fun b1_1 => ?_
  refine VL.q (q_assign rfl) (by decide) ?_
  refine VL.to (fun _ _ h => h) ?_
  refine VC.seq ?_
  refine VC.region ?_
  refine VL.q (q_field gfa62_2 rfl) (by decide) ?_
  refine VL.q (q_fe gone3 rfl rfl) (by decide) ?_
  refine VL.q (q_assign rfl) (by decide) ?_
  refine VL.to (fun _ _ h => h) ?_
  refine VC.cutJ (S := Int) (fun (least3_2 : Int) => least3_2) (fun (least3_2 : Int) => [(1, ptr b1_1 0), (3, i64 least3_2)]) (fun (least3_2 : Int) => Mo.tt) (fun (least3_2 : Int) => Ow.star (Blk b1_1 [str c_0.verb, str c_0.name, i64 c_0.n, str c_0.text, .bool c_0.force, c_0.todo.val] 62) (Ow.emp)) hS ?_ ?_
  · -- up to where ways meet
    clear hS
    intro k3 hS
    refine VC.seq ?_
    refine VC.region ?_
    refine VL.q (q_field gfa62_0 rfl) (by decide) ?_
    refine VL.q (q_fe gone9 rfl rfl) (by decide) ?_
    refine VL.to (fun _ _ h => h) ?_
    refine VC.block ?_
    refine VC.seq ?_
    refine VC.block ?_
    refine VC.seq ?_
    refine VC.block ?_
    refine VC.seq ?_
    refine VC.block ?_
    refine VC.seq ?_
    refine VC.cutJ (S := Unit) (fun (_ : Unit) => ()) (fun (_ : Unit) => [(1, ptr b1_1 0), (3, i64 c_0.n), (7, str c_0.verb)]) (fun (_ : Unit) => Mo.tt) (fun (_ : Unit) => Ow.star (Blk b1_1 [str c_0.verb, str c_0.name, i64 c_0.n, str c_0.text, .bool c_0.force, c_0.todo.val] 62) (Ow.emp)) hS ?_ ?_
    · -- up to where ways meet
      clear hS
      intro k4 hS
      refine VC.seq ?_
      refine VC.seq ?_
      refine VC.region ?_
      refine VL.q (q_seq rfl rfl) (by decide) ?_
      refine VL.q (q_assign rfl) (by decide) ?_
      refine VL.to (fun _ _ h => h) ?_
      refine VC.cond_dec rfl (fun h8 => ?_) (fun h8 => ?_)
      ·
        replace hS := it_t h8 hS
        refine VC.skip_to (fun _ _ h => h) ?_
        refine VC.cond_dec rfl (fun h8 => ?_) (fun h8 => ?_)
        ·
          replace hS := it_t h8 hS
          refine VC.exit_to (fun _ _ h => h) ?_
          refine VC.seq ?_
          refine VC.region ?_
          refine VL.q (q_assign rfl) (by decide) ?_
          refine VL.to (fun _ _ h => h) ?_
          refine VC.exit_mt 0 [1, 3] (fun _ _ h => h) hS rfl
        ·
          replace hS := it_f h8 hS
          refine VC.skip_mt () [1, 3, 7] (fun _ _ h => h) hS rfl
      ·
        replace hS := it_f h8 hS
        refine VC.seq ?_
        refine VC.region ?_
        refine VL.q (q_seq rfl rfl) (by decide) ?_
        refine VL.q (q_assign rfl) (by decide) ?_
        refine VL.to (fun _ _ h => h) ?_
        refine VC.keep [1, 3, 7, 8] rfl ?_
        refine VC.cond_dec rfl (fun h8 => ?_) (fun h8 => ?_)
        ·
          replace hS := it_t h8 hS
          refine VC.skip_to (fun _ _ h => h) ?_
          refine VC.cond_dec rfl (fun h8 => ?_) (fun h8 => ?_)
          ·
            replace hS := it_t h8 hS
            refine VC.exit_to (fun _ _ h => h) ?_
            refine VC.seq ?_
            refine VC.region ?_
            refine VL.q (q_assign rfl) (by decide) ?_
            refine VL.to (fun _ _ h => h) ?_
            refine VC.exit_mt 0 [1, 3] (fun _ _ h => h) hS rfl
          ·
            replace hS := it_f h8 hS
            refine VC.skip_mt () [1, 3, 7] (fun _ _ h => h) hS rfl
        ·
          replace hS := it_f h8 hS
          refine VC.region ?_
          refine VL.q (q_seq rfl rfl) (by decide) ?_
          refine VL.q (q_assign rfl) (by decide) ?_
          refine VL.to (fun _ _ h => h) ?_
          refine VC.cond_dec rfl (fun h8 => ?_) (fun h8 => ?_)
          ·
            replace hS := it_t h8 hS
            refine VC.exit_to (fun _ _ h => h) ?_
            refine VC.seq ?_
            refine VC.region ?_
            refine VL.q (q_assign rfl) (by decide) ?_
            refine VL.to (fun _ _ h => h) ?_
            refine VC.exit_mt 0 [1, 3] (fun _ _ h => h) hS rfl
          ·
            replace hS := it_f h8 hS
            refine VC.skip_mt () [1, 3, 7] (fun _ _ h => h) hS rfl
    · -- from there
      clear hS
      rintro _ hS
      show VC _ _ _ _ _ [(1, ptr b1_1 0), (3, i64 c_0.n), (7, str c_0.verb)] (Mo.and Mo.tt _) (Ow.star (Blk b1_1 [str c_0.verb, str c_0.name, i64 c_0.n, str c_0.text, .bool c_0.force, c_0.todo.val] 62) (Ow.emp))
      refine VC.seq ?_
      refine VC.seq ?_
      refine VC.region ?_
      refine VL.q (q_seq rfl rfl) (by decide) ?_
      refine VL.q (q_assign rfl) (by decide) ?_
      refine VL.to (fun _ _ h => h) ?_
      refine VC.cond_dec rfl (fun h12 => ?_) (fun h12 => ?_)
      ·
        replace hS := it_t h12 hS
        refine VC.exit_to (fun _ _ h => h) ?_
        refine VC.seq ?_
        refine VC.region ?_
        refine VL.q (q_field gfa62_1 rfl) (by decide) ?_
        refine VL.q (q_fe gone9 rfl rfl) (by decide) ?_
        refine VL.q (q_sne rfl rfl) (by decide) ?_
        refine VL.to (fun _ _ h => h) ?_
        refine VC.cond_ndec rfl (fun h21 => ?_) (fun h21 => ?_)
        ·
          replace hS := it_f h21 hS
          refine VC.exit_mt c_0.n [1, 3] (fun _ _ h => h) hS rfl
        ·
          replace hS := it_t h21 hS
          refine VC.skip_to (fun _ _ h => h) ?_
          refine VC.seq ?_
          refine VC.region ?_
          refine VL.q (q_assign rfl) (by decide) ?_
          refine VL.to (fun _ _ h => h) ?_
          refine VC.exit_mt 1 [1, 3] (fun _ _ h => h) hS rfl
      ·
        replace hS := it_f h12 hS
        refine VC.skip_to (fun _ _ h => h) ?_
        refine VC.seq ?_
        refine VC.seq ?_
        refine VC.region ?_
        refine VL.q (q_seq rfl rfl) (by decide) ?_
        refine VL.q (q_assign rfl) (by decide) ?_
        refine VL.to (fun _ _ h => h) ?_
        refine VC.cond_dec rfl (fun h14 => ?_) (fun h14 => ?_)
        ·
          replace hS := it_t h14 hS
          refine VC.skip_to (fun _ _ h => h) ?_
          refine VC.cond_dec rfl (fun h14 => ?_) (fun h14 => ?_)
          ·
            replace hS := it_t h14 hS
            refine VC.exit_to (fun _ _ h => h) ?_
            refine VC.seq ?_
            refine VC.region ?_
            refine VL.q (q_assign rfl) (by decide) ?_
            refine VL.to (fun _ _ h => h) ?_
            refine VC.exit_mt 1 [1, 3] (fun _ _ h => h) hS rfl
          ·
            replace hS := it_f h14 hS
            refine VC.skip_to (fun _ _ h => h) ?_
            refine VC.exit_mt c_0.n [1, 3] (fun _ _ h => h) hS rfl
        ·
          replace hS := it_f h14 hS
          refine VC.seq ?_
          refine VC.region ?_
          refine VL.q (q_seq rfl rfl) (by decide) ?_
          refine VL.q (q_assign rfl) (by decide) ?_
          refine VL.to (fun _ _ h => h) ?_
          refine VC.cond_dec rfl (fun h14 => ?_) (fun h14 => ?_)
          ·
            replace hS := it_t h14 hS
            refine VC.skip_to (fun _ _ h => h) ?_
            refine VC.cond_dec rfl (fun h14 => ?_) (fun h14 => ?_)
            ·
              replace hS := it_t h14 hS
              refine VC.exit_to (fun _ _ h => h) ?_
              refine VC.seq ?_
              refine VC.region ?_
              refine VL.q (q_assign rfl) (by decide) ?_
              refine VL.to (fun _ _ h => h) ?_
              refine VC.exit_mt 1 [1, 3] (fun _ _ h => h) hS rfl
            ·
              replace hS := it_f h14 hS
              refine VC.skip_to (fun _ _ h => h) ?_
              refine VC.exit_mt c_0.n [1, 3] (fun _ _ h => h) hS rfl
          ·
            replace hS := it_f h14 hS
            refine VC.seq ?_
            refine VC.region ?_
            refine VL.q (q_seq rfl rfl) (by decide) ?_
            refine VL.q (q_assign rfl) (by decide) ?_
            refine VL.to (fun _ _ h => h) ?_
            refine VC.cond_dec rfl (fun h14 => ?_) (fun h14 => ?_)
            ·
              replace hS := it_t h14 hS
              refine VC.skip_to (fun _ _ h => h) ?_
              refine VC.cond_dec rfl (fun h14 => ?_) (fun h14 => ?_)
              ·
                replace hS := it_t h14 hS
                refine VC.exit_to (fun _ _ h => h) ?_
                refine VC.seq ?_
                refine VC.region ?_
                refine VL.q (q_assign rfl) (by decide) ?_
                refine VL.to (fun _ _ h => h) ?_
                refine VC.exit_mt 1 [1, 3] (fun _ _ h => h) hS rfl
              ·
                replace hS := it_f h14 hS
                refine VC.skip_to (fun _ _ h => h) ?_
                refine VC.exit_mt c_0.n [1, 3] (fun _ _ h => h) hS rfl
            ·
              replace hS := it_f h14 hS
              refine VC.region ?_
              refine VL.q (q_seq rfl rfl) (by decide) ?_
              refine VL.q (q_assign rfl) (by decide) ?_
              refine VL.to (fun _ _ h => h) ?_
              refine VC.cond_dec rfl (fun h14 => ?_) (fun h14 => ?_)
              ·
                replace hS := it_t h14 hS
                refine VC.exit_to (fun _ _ h => h) ?_
                refine VC.seq ?_
                refine VC.region ?_
                refine VL.q (q_assign rfl) (by decide) ?_
                refine VL.to (fun _ _ h => h) ?_
                refine VC.exit_mt 1 [1, 3] (fun _ _ h => h) hS rfl
              ·
                replace hS := it_f h14 hS
                refine VC.skip_to (fun _ _ h => h) ?_
                refine VC.exit_mt c_0.n [1, 3] (fun _ _ h => h) hS rfl
  · -- from there
    clear hS
    rintro least3_2 hS
    show VC _ _ _ _ _ [(1, ptr b1_1 0), (3, i64 least3_2)] (Mo.and Mo.tt _) (Ow.star (Blk b1_1 [str c_0.verb, str c_0.name, i64 c_0.n, str c_0.text, .bool c_0.force, c_0.todo.val] 62) (Ow.emp))
    refine VC.seq ?_
    refine VC.seq ?_
    refine VC.region ?_
    refine VL.q (q_field gfa62_2 rfl) (by decide) ?_
    refine VL.q (q_fe gone3 rfl rfl) (by decide) ?_
    refine VL.q (q_move rfl) (by decide) ?_
    refine VL.q (q_lss rfl rfl) (by decide) ?_
    refine VL.to (fun _ _ h => h) ?_
    refine VC.cond_dec rfl (fun h25 => ?_) (fun h25 => ?_)
    ·
      replace hS := it_t h25 hS
      refine VC.seq ?_
      refine VC.region ?_
      refine VL.q (q_assign rfl) (by decide) ?_
      refine VL.to (fun _ _ h => h) ?_
      cases hS
      exact VC.ret (fin1 (.inr rfl) rfl rfl () rfl trivial (fun _ _ => trivial) (fun _ _ => trivial))
    ·
      replace hS := it_f h25 hS
      refine VC.skip_to (fun _ _ h => h) ?_
      refine VC.seq ?_
      refine VC.region ?_
      refine VL.q (q_assign rfl) (by decide) ?_
      refine VL.to (fun _ _ h => h) ?_
      cases hS
      exact VC.ret (fin1 (.inr rfl) rfl rfl () rfl trivial (fun _ _ => trivial) (fun _ _ => trivial))

set_option maxHeartbeats 4000000 in
set_option maxRecDepth 100000 in
theorem strings_Contains_ct (s_0 : Str) (substr_1 : Str) {r : Bool} (hS : Sh.strings_Contains s_0 substr_1 = some r) :
    Ct Tryd.prog 141 [str s_0, str substr_1] Mo.tt (Ow.emp) (X := Unit) (fun _ => .bool r) (fun _ => True) (fun _ => Mo.tt) (fun _ => Ow.emp) := by
  refine Ct.of Tryd.func141 rfl (by kernel_rfl) Tryd.ntmps141 (by simp) fun c => ?_
  unfold Sh.strings_Contains at hS
  refine VC.seq ?_
  refine VC.region ?_
  refine VL.q (q_assign rfl) (by decide) ?_
  refine VL.to (fun _ _ h => h) ?_
  refine VC.seq ?_
  refine VC.region ?_
  refine VL.q (q_move rfl) (by decide) ?_
  refine VL.q (q_move rfl) (by decide) ?_
  obtain ⟨y7_1, ey7_1, hS⟩ := bd_s hS
  refine VL.q (q_call (strings_Index_ct s_0 substr_1 ey7_1) rfl (fun _ _ => rfl)) (by decide) ?_
  refine VL.q (q_geq rfl rfl) (by decide) ?_
  refine VL.q (q_assign rfl) (by decide) ?_
  refine VL.to (fun _ _ h => h) ?_
  cases hS
  exact VC.ret (fin1 (.inr rfl) rfl rfl () rfl trivial (fun _ _ => trivial) (fun _ _ => trivial))

set_option maxHeartbeats 4000000 in
set_option maxRecDepth 100000 in
theorem cmd_text_ct (s_0 : Str) (must_1 : Bool) {r : Int} (hS : Sh.cmd_text s_0 must_1 = some r) :
    Ct Tryd.prog 114 [str s_0, .bool must_1] Mo.tt (Ow.emp) (X := Unit) (fun _ => i64 r) (fun _ => True) (fun _ => Mo.tt) (fun _ => Ow.emp) := by
  refine Ct.of Tryd.func114 rfl (by kernel_rfl) Tryd.ntmps114 (by simp) fun c => ?_
  unfold Sh.cmd_text at hS
  refine VC.seq ?_
  refine VC.region ?_
  refine VL.q (q_assign rfl) (by decide) ?_
  refine VL.to (fun _ _ h => h) ?_
  refine VC.seq ?_
  refine VC.block ?_
  refine VC.seq ?_
  refine VC.region ?_
  refine VL.q (q_move rfl) (by decide) ?_
  refine VL.q (q_slen Tryd.underlying9 rfl) (by decide) ?_
  refine VL.q (q_gtr rfl rfl) (by decide) ?_
  refine VL.q (q_assign rfl) (by decide) ?_
  refine VL.to (fun _ _ h => h) ?_
  refine VC.cond_dec rfl (fun h5 => ?_) (fun h5 => ?_)
  ·
    replace hS := it_t h5 hS
    refine VC.seq ?_
    refine VC.region ?_
    refine VL.q (q_assign rfl) (by decide) ?_
    refine VL.to (fun _ _ h => h) ?_
    cases hS
    exact VC.ret (fin1 (.inr rfl) rfl rfl () rfl trivial (fun _ _ => trivial) (fun _ _ => trivial))
  ·
    replace hS := it_f h5 hS
    refine VC.cutJ (S := Bool) (fun (x9_1 : Bool) => x9_1) (fun (x9_1 : Bool) => [(0, str s_0), (9, .bool x9_1)]) (fun (x9_1 : Bool) => Mo.tt) (fun (x9_1 : Bool) => Ow.emp) hS ?_ ?_
    · -- up to where ways meet
      clear hS
      intro k2 hS
      refine VC.region ?_
      refine VL.q (q_move rfl) (by decide) ?_
      refine VL.q (q_move rfl) (by decide) ?_
      refine VL.split 11 rfl (fun h11 => ?_) (fun h11 => ?_)
      ·
        replace hS := it_t h11 hS
        refine VL.gy rfl rfl (q_move rfl) (by decide) ?_
        refine VL.gy rfl rfl (q_seq rfl rfl) (by decide) ?_
        refine VL.q (q_pick_t rfl rfl) (by decide) ?_
        refine VL.q (q_assign rfl) (by decide) ?_
        refine VL.mt (decide (s_0 = [])) [0, 9] (fun _ _ h => h) hS rfl
      ·
        replace hS := it_b h11 hS
        refine VL.gn rfl rfl rfl (by decide) ?_
        refine VL.gn rfl rfl rfl (by decide) ?_
        refine VL.q (q_pick_f rfl rfl) (by decide) ?_
        refine VL.q (q_assign rfl) (by decide) ?_
        refine VL.mt false [0, 9] (fun _ _ h => h) hS rfl
    · -- from there
      clear hS
      rintro x9_1 hS
      show VC _ _ _ _ _ [(0, str s_0), (9, .bool x9_1)] (Mo.and Mo.tt _) (Ow.emp)
      refine VC.cond rfl (fun h9 => ?_) (fun h9 => ?_)
      ·
        replace hS := it_t h9 hS
        refine VC.seq ?_
        refine VC.region ?_
        refine VL.q (q_assign rfl) (by decide) ?_
        refine VL.to (fun _ _ h => h) ?_
        cases hS
        exact VC.ret (fin1 (.inr rfl) rfl rfl () rfl trivial (fun _ _ => trivial) (fun _ _ => trivial))
      ·
        replace hS := it_b h9 hS
        refine VC.seq ?_
        refine VC.region ?_
        refine VL.q (q_move rfl) (by decide) ?_
        obtain ⟨y17_3, ey17_3, hS⟩ := bd_s hS
        refine VL.q (q_call (strings_Contains_ct s_0 [10] ey17_3) rfl (fun _ _ => rfl)) (by decide) ?_
        refine VL.q (q_assign rfl) (by decide) ?_
        refine VL.to (fun _ _ h => h) ?_
        refine VC.cond rfl (fun h15 => ?_) (fun h15 => ?_)
        ·
          replace hS := it_t h15 hS
          refine VC.seq ?_
          refine VC.region ?_
          refine VL.q (q_assign rfl) (by decide) ?_
          refine VL.to (fun _ _ h => h) ?_
          cases hS
          exact VC.ret (fin1 (.inr rfl) rfl rfl () rfl trivial (fun _ _ => trivial) (fun _ _ => trivial))
        ·
          replace hS := it_b h15 hS
          refine VC.skip_to (fun _ _ h => h) ?_
          refine VC.seq ?_
          refine VC.region ?_
          refine VL.q (q_assign rfl) (by decide) ?_
          refine VL.to (fun _ _ h => h) ?_
          cases hS
          exact VC.ret (fin1 (.inr rfl) rfl rfl () rfl trivial (fun _ _ => trivial) (fun _ _ => trivial))

set_option maxHeartbeats 4000000 in
set_option maxRecDepth 100000 in
theorem cmd_steps_ct (l_0 : Sv TodoStep) {r : Int} (hS : Sh.cmd_steps l_0.l = some r) :
    Ct Tryd.prog 115 [l_0.val] l_0.ok (Ow.emp) (X := Unit) (fun _ => i64 r) (fun _ => True) (fun _ => Mo.tt) (fun _ => Ow.emp) := by
  refine Ct.of Tryd.func115 rfl (by kernel_rfl) Tryd.ntmps115 (by simp) fun c => ?_
  unfold Sh.cmd_steps at hS
  refine VC.seq ?_
  refine VC.region ?_
  refine VL.q (q_assign rfl) (by decide) ?_
  refine VL.to (fun _ _ h => h) ?_
  refine VC.seq ?_
  refine VC.seq ?_
  refine VC.region ?_
  refine VL.q (q_move rfl) (by decide) ?_
  refine VL.q (q_ln (s := l_0) Tryd.underlying22 rfl) (by decide) ?_
  refine VL.q (q_gtr rfl rfl) (by decide) ?_
  refine VL.to (fun _ _ h => h) ?_
  refine VC.cond_dec rfl (fun h8 => ?_) (fun h8 => ?_)
  ·
    replace hS := it_t h8 hS
    refine VC.seq ?_
    refine VC.region ?_
    refine VL.q (q_assign rfl) (by decide) ?_
    refine VL.to (fun _ _ h => h) ?_
    cases hS
    exact VC.ret (fin1 (.inr rfl) rfl rfl () rfl trivial (fun _ _ => trivial) (fun _ _ => trivial))
  ·
    replace hS := it_f h8 hS
    refine VC.skip_to (fun _ _ h => h) ?_
    refine VC.seq ?_
    refine VC.seq ?_
    refine VC.region ?_
    refine VL.q (q_move rfl) (by decide) ?_
    refine VL.q (q_ln (s := l_0) Tryd.underlying22 rfl) (by decide) ?_
    refine VL.q (q_move rfl) (by decide) ?_
    refine VL.to (fun _ _ h => h) ?_
    refine VC.block ?_
    refine VC.iter (S := Int) (fun (x11_1 : Int) => x11_1) (fun (x11_1 : Int) => [(9, l_0.val), (10, i64 (l_0.l.length : Int)), (11, i64 x11_1)]) (fun (x11_1 : Int) => Mo.tt) (fun (x11_1 : Int) => Ow.emp) 0 [9, 10, 11] hS rfl ?_
    clear hS
    rintro x11_1 m1 y1 hS hK1
    show VC _ _ _ _ _ [(9, l_0.val), (10, i64 (l_0.l.length : Int)), (11, i64 x11_1)] (Mo.and Mo.tt _) (Ow.emp)
    refine VC.seq ?_
    refine VC.region ?_
    refine VL.q (q_lss rfl rfl) (by decide) ?_
    refine VL.to (fun _ _ h => h) ?_
    refine VC.seq ?_
    refine VC.cond_dec rfl (fun h12 => ?_) (fun h12 => ?_)
    ·
      replace hS := it_t h12 hS
      refine VC.skip_to (fun _ _ h => h) ?_
      refine VC.seq ?_
      refine VC.block ?_
      refine VC.seq ?_
      refine VC.region ?_
      obtain ⟨z13_2, nz13_2, hz13_2, hS⟩ := at_s hS
      refine VL.q (q_ixm (s := l_0) Tryd.underlying22 gsz26 rfl rfl nz13_2 (lt_of_get nz13_2 hz13_2)) (by decide) ?_
      refine VL.q (q_els (s := l_0) gagg26 rfl rfl hz13_2) (by decide) ?_
      refine VL.alloc (cs := [str [], i64 0, str []]) (by kernel_rfl) (by decide) fun b4_3 => ?_
      refine VL.store (vc := [str z13_2.verb, i64 z13_2.commit, str z13_2.text]) (cs' := [str z13_2.verb, i64 z13_2.commit, str z13_2.text]) rfl rfl rfl gsz26 rfl rfl (Nat.le_of_ble_eq_true rfl) rfl ?_
      refine VL.to (fun _ _ h => h) ?_
      refine VC.seq ?_
      refine VC.seq ?_
      refine VC.region ?_
      refine VL.q (q_field gfa26_0 rfl) (by decide) ?_
      refine VL.q (q_fe gone9 rfl rfl) (by decide) ?_
      refine VL.to (fun _ _ h => h) ?_
      refine VC.block ?_
      refine VC.cutJ (S := Bool) (fun (x17_4 : Bool) => x17_4) (fun (x17_4 : Bool) => [(4, ptr b4_3 0), (9, l_0.val), (10, i64 (l_0.l.length : Int)), (11, i64 x11_1), (17, .bool x17_4)]) (fun (x17_4 : Bool) => Mo.tt) (fun (x17_4 : Bool) => Ow.star (Blk b4_3 [str z13_2.verb, i64 z13_2.commit, str z13_2.text] 26) (Ow.emp)) hS ?_ ?_
      · -- up to where ways meet
        clear hS
        intro k5 hS
        refine VC.seq ?_
        refine VC.region ?_
        refine VL.q (q_seq rfl rfl) (by decide) ?_
        refine VL.q (q_assign rfl) (by decide) ?_
        refine VL.to (fun _ _ h => h) ?_
        refine VC.cond_dec rfl (fun h17 => ?_) (fun h17 => ?_)
        ·
          replace hS := it_t h17 hS
          refine VC.skip_mt (decide (z13_2.verb = [112, 105, 99, 107])) [4, 9, 10, 11, 17] (fun _ _ h => h) hS rfl
        ·
          replace hS := it_f h17 hS
          refine VC.seq ?_
          refine VC.region ?_
          refine VL.q (q_seq rfl rfl) (by decide) ?_
          refine VL.q (q_assign rfl) (by decide) ?_
          refine VL.to (fun _ _ h => h) ?_
          refine VC.cond_dec rfl (fun h17 => ?_) (fun h17 => ?_)
          ·
            replace hS := it_t h17 hS
            refine VC.skip_mt (decide (z13_2.verb = [101, 100, 105, 116])) [4, 9, 10, 11, 17] (fun _ _ h => h) hS rfl
          ·
            replace hS := it_f h17 hS
            refine VC.seq ?_
            refine VC.region ?_
            refine VL.q (q_seq rfl rfl) (by decide) ?_
            refine VL.q (q_assign rfl) (by decide) ?_
            refine VL.to (fun _ _ h => h) ?_
            refine VC.keep [9, 10, 11, 4, 16, 17] rfl ?_
            refine VC.cond_dec rfl (fun h17 => ?_) (fun h17 => ?_)
            ·
              replace hS := it_t h17 hS
              refine VC.skip_mt (decide (z13_2.verb = [115, 113, 117, 97, 115, 104])) [4, 9, 10, 11, 17] (fun _ _ h => h) hS rfl
            ·
              replace hS := it_f h17 hS
              refine VC.seq ?_
              refine VC.region ?_
              refine VL.q (q_seq rfl rfl) (by decide) ?_
              refine VL.q (q_assign rfl) (by decide) ?_
              refine VL.to (fun _ _ h => h) ?_
              refine VC.cond_dec rfl (fun h17 => ?_) (fun h17 => ?_)
              ·
                replace hS := it_t h17 hS
                refine VC.skip_mt (decide (z13_2.verb = [102, 105, 120, 117, 112])) [4, 9, 10, 11, 17] (fun _ _ h => h) hS rfl
              ·
                replace hS := it_f h17 hS
                refine VC.seq ?_
                refine VC.region ?_
                refine VL.q (q_seq rfl rfl) (by decide) ?_
                refine VL.q (q_assign rfl) (by decide) ?_
                refine VL.to (fun _ _ h => h) ?_
                refine VC.cond_dec rfl (fun h17 => ?_) (fun h17 => ?_)
                ·
                  replace hS := it_t h17 hS
                  refine VC.skip_mt (decide (z13_2.verb = [100, 114, 111, 112])) [4, 9, 10, 11, 17] (fun _ _ h => h) hS rfl
                ·
                  replace hS := it_f h17 hS
                  refine VC.region ?_
                  refine VL.q (q_seq rfl rfl) (by decide) ?_
                  refine VL.q (q_assign rfl) (by decide) ?_
                  refine VL.mt (decide (z13_2.verb = [114, 101, 119, 111, 114, 100])) [4, 9, 10, 11, 17] (fun _ _ h => h) hS rfl
      · -- from there
        clear hS
        rintro x17_4 hS
        show VC _ _ _ _ _ [(4, ptr b4_3 0), (9, l_0.val), (10, i64 (l_0.l.length : Int)), (11, i64 x11_1), (17, .bool x17_4)] (Mo.and Mo.tt _) (Ow.star (Blk b4_3 [str z13_2.verb, i64 z13_2.commit, str z13_2.text] 26) (Ow.emp))
        refine VC.cond rfl (fun h17 => ?_) (fun h17 => ?_)
        ·
          replace hS := it_t h17 hS
          refine VC.skip_to (fun _ _ h => h) ?_
          refine VC.seq ?_
          refine VC.cutJ (S := Bool) (fun (x31_6 : Bool) => x31_6) (fun (x31_6 : Bool) => [(4, ptr b4_3 0), (9, l_0.val), (10, i64 (l_0.l.length : Int)), (11, i64 x11_1), (31, .bool x31_6)]) (fun (x31_6 : Bool) => Mo.tt) (fun (x31_6 : Bool) => Ow.star (Blk b4_3 [str z13_2.verb, i64 z13_2.commit, str z13_2.text] 26) (Ow.emp)) hS ?_ ?_
          · -- up to where ways meet
            clear hS
            intro k7 hS
            refine VC.region ?_
            refine VL.q (q_field gfa26_1 rfl) (by decide) ?_
            refine VL.q (q_fe gone3 rfl rfl) (by decide) ?_
            refine VL.q (q_lss rfl rfl) (by decide) ?_
            refine VL.q (q_move rfl) (by decide) ?_
            refine VL.split_dec 27 rfl (fun h27 => ?_) (fun h27 => ?_)
            ·
              replace hS := it_t h27 hS
              refine VL.gn rfl rfl rfl (by decide) ?_
              refine VL.gn rfl rfl rfl (by decide) ?_
              refine VL.gn rfl rfl rfl (by decide) ?_
              refine VL.q (q_pick_t rfl rfl) (by decide) ?_
              refine VL.mt true [4, 9, 10, 11, 31] (fun _ _ h => h) hS rfl
            ·
              replace hS := it_f h27 hS
              refine VL.gy rfl rfl (q_field gfa26_1 rfl) (by decide) ?_
              refine VL.gy rfl rfl (q_fe gone3 rfl rfl) (by decide) ?_
              refine VL.gy rfl rfl (q_gtr rfl rfl) (by decide) ?_
              refine VL.q (q_pick_f rfl rfl) (by decide) ?_
              refine VL.mt (decide (1000000 < z13_2.commit)) [4, 9, 10, 11, 31] (fun _ _ h => h) hS rfl
          · -- from there
            clear hS
            rintro x31_6 hS
            show VC _ _ _ _ _ [(4, ptr b4_3 0), (9, l_0.val), (10, i64 (l_0.l.length : Int)), (11, i64 x11_1), (31, .bool x31_6)] (Mo.and Mo.tt _) (Ow.star (Blk b4_3 [str z13_2.verb, i64 z13_2.commit, str z13_2.text] 26) (Ow.emp))
            refine VC.cond rfl (fun h31 => ?_) (fun h31 => ?_)
            ·
              replace hS := it_t h31 hS
              refine VC.seq ?_
              refine VC.region ?_
              refine VL.q (q_assign rfl) (by decide) ?_
              refine VL.to (fun _ _ h => h) ?_
              replace hS := up2 hS hK1
              cases hS
              exact VC.ret (fin1 (.inr rfl) rfl rfl () rfl trivial (fun _ _ => trivial) (fun _ _ => trivial))
            ·
              replace hS := it_b h31 hS
              refine VC.skip_to (fun _ _ h => h) ?_
              refine VC.seq ?_
              refine VC.seq ?_
              refine VC.region ?_
              refine VL.q (q_field gfa26_0 rfl) (by decide) ?_
              refine VL.q (q_fe gone9 rfl rfl) (by decide) ?_
              refine VL.q (q_sne rfl rfl) (by decide) ?_
              refine VL.to (fun _ _ h => h) ?_
              refine VC.cond_ndec rfl (fun h34 => ?_) (fun h34 => ?_)
              ·
                replace hS := it_f h34 hS
                refine VC.exit_to (fun _ _ h => h) ?_
                refine VC.region ?_
                obtain ⟨b41, hS⟩ := gd_s hS
                refine VL.q (q_add rfl rfl b41) (by decide) ?_
                refine VL.q (q_move rfl) (by decide) ?_
                refine VL.rnd (x11_1 + 1) [9, 10, 11] (fun _ _ h => h) (go2 hS hK1) rfl
              ·
                replace hS := it_t h34 hS
                refine VC.skip_to (fun _ _ h => h) ?_
                refine VC.seq ?_
                refine VC.region ?_
                refine VL.q (q_field gfa26_2 rfl) (by decide) ?_
                refine VL.q (q_fe gone9 rfl rfl) (by decide) ?_
                obtain ⟨y37_8, ey37_8, hS⟩ := bd_s hS
                refine VL.q (q_call (cmd_text_ct z13_2.text true ey37_8) rfl (fun _ _ => rfl)) (by decide) ?_
                refine VL.q (q_assign rfl) (by decide) ?_
                refine VL.to (fun _ _ h => h) ?_
                refine VC.keep [9, 10, 11, 5] rfl ?_
                refine VC.seq ?_
                refine VC.region ?_
                refine VL.q (q_move rfl) (by decide) ?_
                refine VL.q (q_neq rfl rfl) (by decide) ?_
                refine VL.to (fun _ _ h => h) ?_
                refine VC.cond_ndec rfl (fun h39 => ?_) (fun h39 => ?_)
                ·
                  replace hS := it_f h39 hS
                  refine VC.seq ?_
                  refine VC.region ?_
                  refine VL.q (q_move rfl) (by decide) ?_
                  refine VL.q (q_assign rfl) (by decide) ?_
                  refine VL.to (fun _ _ h => h) ?_
                  replace hS := up2 hS hK1
                  cases hS
                  exact VC.ret (fin1 (.inr rfl) rfl rfl () rfl trivial (fun _ _ => trivial) (fun _ _ => trivial))
                ·
                  replace hS := it_t h39 hS
                  refine VC.skip_to (fun _ _ h => h) ?_
                  refine VC.region ?_
                  obtain ⟨b41, hS⟩ := gd_s hS
                  refine VL.q (q_add rfl rfl b41) (by decide) ?_
                  refine VL.q (q_move rfl) (by decide) ?_
                  refine VL.rnd (x11_1 + 1) [9, 10, 11] (fun _ _ h => h) (go2 hS hK1) rfl
        ·
          replace hS := it_b h17 hS
          refine VC.seq ?_
          refine VC.region ?_
          refine VL.q (q_assign rfl) (by decide) ?_
          refine VL.to (fun _ _ h => h) ?_
          replace hS := up2 hS hK1
          cases hS
          exact VC.ret (fin1 (.inr rfl) rfl rfl () rfl trivial (fun _ _ => trivial) (fun _ _ => trivial))
    ·
      replace hS := it_f h12 hS
      replace hS := up2 hS hK1
      refine VC.exit_to (fun _ _ h => h) ?_
      refine VC.seq ?_
      refine VC.region ?_
      refine VL.q (q_assign rfl) (by decide) ?_
      refine VL.to (fun _ _ h => h) ?_
      cases hS
      exact VC.ret (fin1 (.inr rfl) rfl rfl () rfl trivial (fun _ _ => trivial) (fun _ _ => trivial))

set_option maxHeartbeats 4000000 in
set_option maxRecDepth 100000 in
theorem cmd_more_ct (c_0 : CmdCmd) {r : Int} (hS : Sh.cmd_more c_0.pl = some r) :
    Ct Tryd.prog 79 [.agg #[str c_0.verb, str c_0.name, i64 c_0.n, str c_0.text, .bool c_0.force, c_0.todo.val]] c_0.todo.ok (Ow.emp) (X := Unit) (fun _ => i64 r) (fun _ => True) (fun _ => Mo.tt) (fun _ => Ow.emp) := by
  refine Ct.of Tryd.func79 rfl (by kernel_rfl) Tryd.ntmps79 (by simp) fun c => ?_
  unfold Sh.cmd_more at hS
  refine VC.seq ?_
  refine VC.region ?_
  refine VL.box (cs := [str c_0.verb, str c_0.name, i64 c_0.n, str c_0.text, .bool c_0.force, c_0.todo.val]) rfl rfl (by decide) fun b1_1 => ?_
  refine VL.q (q_assign rfl) (by decide) ?_
  refine VL.to (fun _ _ h => h) ?_
  refine VC.seq ?_
  refine VC.seq ?_
  refine VC.region ?_
  refine VL.q (q_field gfa62_0 rfl) (by decide) ?_
  refine VL.q (q_fe gone9 rfl rfl) (by decide) ?_
  refine VL.to (fun _ _ h => h) ?_
  refine VC.block ?_
  refine VC.cutJ (S := Bool) (fun (x5_2 : Bool) => x5_2) (fun (x5_2 : Bool) => [(1, ptr b1_1 0), (4, str c_0.verb), (5, .bool x5_2)]) (fun (x5_2 : Bool) => Mo.tt) (fun (x5_2 : Bool) => Ow.star (Blk b1_1 [str c_0.verb, str c_0.name, i64 c_0.n, str c_0.text, .bool c_0.force, c_0.todo.val] 62) (Ow.emp)) hS ?_ ?_
  · -- up to where ways meet
    clear hS
    intro k3 hS
    refine VC.seq ?_
    refine VC.region ?_
    refine VL.q (q_seq rfl rfl) (by decide) ?_
    refine VL.q (q_assign rfl) (by decide) ?_
    refine VL.to (fun _ _ h => h) ?_
    refine VC.cond_dec rfl (fun h5 => ?_) (fun h5 => ?_)
    ·
      replace hS := it_t h5 hS
      refine VC.skip_mt (decide (c_0.verb = [99, 111, 109, 109, 105, 116])) [1, 4, 5] (fun _ _ h => h) hS rfl
    ·
      replace hS := it_f h5 hS
      refine VC.region ?_
      refine VL.q (q_seq rfl rfl) (by decide) ?_
      refine VL.q (q_assign rfl) (by decide) ?_
      refine VL.mt (decide (c_0.verb = [115, 116, 97, 115, 104])) [1, 4, 5] (fun _ _ h => h) hS rfl
  · -- from there
    clear hS
    rintro x5_2 hS
    show VC _ _ _ _ _ [(1, ptr b1_1 0), (4, str c_0.verb), (5, .bool x5_2)] (Mo.and Mo.tt _) (Ow.star (Blk b1_1 [str c_0.verb, str c_0.name, i64 c_0.n, str c_0.text, .bool c_0.force, c_0.todo.val] 62) (Ow.emp))
    refine VC.cond rfl (fun h5 => ?_) (fun h5 => ?_)
    ·
      replace hS := it_t h5 hS
      refine VC.seq ?_
      refine VC.region ?_
      refine VL.q (q_field gfa62_3 rfl) (by decide) ?_
      refine VL.q (q_fe gone9 rfl rfl) (by decide) ?_
      refine VL.q (q_field gfa62_0 rfl) (by decide) ?_
      refine VL.q (q_fe gone9 rfl rfl) (by decide) ?_
      refine VL.q (q_seq rfl rfl) (by decide) ?_
      obtain ⟨y13_4, ey13_4, hS⟩ := bd_s hS
      refine VL.q (q_call (cmd_text_ct c_0.text (decide (c_0.verb = [99, 111, 109, 109, 105, 116])) ey13_4) rfl (fun _ _ => rfl)) (by decide) ?_
      refine VL.q (q_assign rfl) (by decide) ?_
      refine VL.to (fun _ _ h => h) ?_
      cases hS
      exact VC.ret (fin1 (.inr rfl) rfl rfl () rfl trivial (fun _ _ => trivial) (fun _ _ => trivial))
    ·
      replace hS := it_b h5 hS
      refine VC.seq ?_
      refine VC.region ?_
      refine VL.q (q_seq rfl rfl) (by decide) ?_
      refine VL.q (q_assign rfl) (by decide) ?_
      refine VL.to (fun _ _ h => h) ?_
      refine VC.cond_dec rfl (fun h14 => ?_) (fun h14 => ?_)
      ·
        replace hS := it_t h14 hS
        refine VC.seq ?_
        refine VC.region ?_
        refine VL.q (q_field gfa62_5 rfl) (by decide) ?_
        refine VL.q (q_fe gone22 rfl rfl) (by decide) ?_
        obtain ⟨y18_5, ey18_5, hS⟩ := bd_s hS
        refine VL.q (q_call (cmd_steps_ct c_0.todo ey18_5) rfl (fun _ _ => rfl)) (by decide) ?_
        refine VL.q (q_assign rfl) (by decide) ?_
        refine VL.to (fun _ _ h => h) ?_
        cases hS
        exact VC.ret (fin1 (.inr rfl) rfl rfl () rfl trivial (fun _ _ => trivial) (fun _ _ => trivial))
      ·
        replace hS := it_f h14 hS
        refine VC.skip_to (fun _ _ h => h) ?_
        refine VC.seq ?_
        refine VC.region ?_
        refine VL.q (q_assign rfl) (by decide) ?_
        refine VL.to (fun _ _ h => h) ?_
        cases hS
        exact VC.ret (fin1 (.inr rfl) rfl rfl () rfl trivial (fun _ _ => trivial) (fun _ _ => trivial))

set_option maxHeartbeats 4000000 in
set_option maxRecDepth 100000 in
theorem cmd_Check_ct (c_0 : CmdCmd) {r : Err} (hS : Sh.cmd_Check c_0.pl = some r) :
    Ct Tryd.prog 38 [.agg #[str c_0.verb, str c_0.name, i64 c_0.n, str c_0.text, .bool c_0.force, c_0.todo.val]] c_0.todo.ok (Ow.emp) (X := Er) (fun x => x.val) (fun x => r = x.pl) (fun x => x.ok) (fun x => Ow.emp) := by
  refine Ct.of Tryd.func38 rfl (by kernel_rfl) Tryd.ntmps38 (by simp) fun c => ?_
  unfold Sh.cmd_Check at hS
  refine VC.seq ?_
  refine VC.region ?_
  refine VL.box (cs := [str c_0.verb, str c_0.name, i64 c_0.n, str c_0.text, .bool c_0.force, c_0.todo.val]) rfl rfl (by decide) fun b1_1 => ?_
  refine VL.q (q_assign rfl) (by decide) ?_
  refine VL.to (fun _ _ h => h) ?_
  refine VC.seq ?_
  refine VC.seq ?_
  refine VC.region ?_
  refine VL.q (q_field gfa62_0 rfl) (by decide) ?_
  refine VL.q (q_fe gone9 rfl rfl) (by decide) ?_
  obtain ⟨y7_2, ey7_2, hS⟩ := bd_s hS
  refine VL.q (q_call (cmd_place_ct c_0.verb ey7_2) rfl (fun _ _ => rfl)) (by decide) ?_
  refine VL.q (q_lss rfl rfl) (by decide) ?_
  refine VL.to (fun _ _ h => h) ?_
  refine VC.cond_dec rfl (fun h8 => ?_) (fun h8 => ?_)
  ·
    replace hS := it_t h8 hS
    refine VC.seq ?_
    refine VC.region ?_
    refine VL.q (q_fes gagg62 rfl rfl) (by decide) ?_
    refine VL.q (q_mkif Tryd.underlying90 (fun _ h => by cases h) rfl) (by decide) ?_
    obtain ⟨y11_3, ey11_3, hS⟩ := bd_s hS
    refine VL.callF (cmd_fault_ct c_0 (Er.no 5) ey11_3) rfl (by decide) ?_
    rintro q11_3_0 rfl
    try dsimp only
    refine VL.q (q_assign rfl) (by decide) ?_
    refine VL.to (fun _ _ h => h) ?_
    cases hS
    exact VC.ret (fin1 (.inr rfl) rfl rfl q11_3_0 rfl rfl (by (try dsimp only); exact InM.out) (fun _ _ => trivial))
  ·
    replace hS := it_f h8 hS
    refine VC.skip_to (fun _ _ h => h) ?_
    refine VC.seq ?_
    refine VC.seq ?_
    refine VC.draw [(0, true), (1, true), (2, true), (3, true), (4, true), (5, true), (8, true), (6, false), (7, true)] mixed (by kernel_rfl) (by kernel_rfl) (by kernel_rfl) ?_
    refine VD.q rfl (q_fes gagg62 rfl rfl) (by decide) ?_
    obtain ⟨y13_4, ey13_4, hS⟩ := bd_s hS
    refine VD.q rfl (q_call (cmd_name_ct c_0 ey13_4) rfl (fun _ _ => rfl)) (by decide) ?_
    refine VD.q rfl (q_fes gagg62 rfl rfl) (by decide) ?_
    obtain ⟨y15_5, ey15_5, hS⟩ := bd_s hS
    refine VD.q rfl (q_call (cmd_number_ct c_0 ey15_5) rfl (fun _ _ => rfl)) (by decide) ?_
    refine VD.q rfl (q_fes gagg62 rfl rfl) (by decide) ?_
    obtain ⟨y17_6, ey17_6, hS⟩ := bd_s hS
    refine VD.q rfl (q_call (cmd_more_ct c_0 ey17_6) rfl (fun _ _ => rfl)) (by decide) ?_
    refine VD.q rfl (q_move rfl) (by decide) ?_
    refine VD.one rfl ?_
    refine VL.lit (α := Int) (xs := [.tmp 13, .tmp 15, .tmp 17]) (vs := [i64 y13_4, i64 y15_5, i64 y17_6]) [y13_4, y15_5, y17_6] Tryd.underlying130 glit90 (by decide) rfl rfl rfl rfl (by decide) (fun _ _ _ _ => trivial) (by decide) (fun s18_7 hs18_7 => ?_) (by decide)
    replace hS := lt_to hs18_7 hS
    refine VL.back (D' := []) (by kernel_rfl) (Pend.nil) ?_
    refine VD.q rfl (q_ln (s := s18_7) Tryd.underlying130 rfl) (by decide) ?_
    refine VD.to (fun _ _ h => h) ?_
    refine VC.keep [1, 20, 18, 19] rfl ?_
    refine VC.block ?_
    refine VC.iter (S := Int) (fun (x20_9 : Int) => x20_9) (fun (x20_9 : Int) => [(1, ptr b1_1 0), (18, s18_7.val), (19, i64 (s18_7.l.length : Int)), (20, i64 x20_9)]) (fun (x20_9 : Int) => Mo.tt) (fun (x20_9 : Int) => Ow.star (Blk b1_1 [str c_0.verb, str c_0.name, i64 c_0.n, str c_0.text, .bool c_0.force, c_0.todo.val] 62) (Ow.emp)) 0 [1, 18, 19, 20] hS rfl ?_
    clear hS
    rintro x20_9 m1 y1 hS hK1
    show VC _ _ _ _ _ [(1, ptr b1_1 0), (18, s18_7.val), (19, i64 (s18_7.l.length : Int)), (20, i64 x20_9)] (Mo.and Mo.tt _) (Ow.star (Blk b1_1 [str c_0.verb, str c_0.name, i64 c_0.n, str c_0.text, .bool c_0.force, c_0.todo.val] 62) (Ow.emp))
    refine VC.seq ?_
    refine VC.region ?_
    refine VL.q (q_lss rfl rfl) (by decide) ?_
    refine VL.to (fun _ _ h => h) ?_
    refine VC.seq ?_
    refine VC.cond_dec rfl (fun h21 => ?_) (fun h21 => ?_)
    ·
      replace hS := it_t h21 hS
      refine VC.skip_to (fun _ _ h => h) ?_
      refine VC.seq ?_
      refine VC.block ?_
      refine VC.seq ?_
      refine VC.region ?_
      obtain ⟨z22_10, nz22_10, hz22_10, hS⟩ := at_s hS
      refine VL.q (q_ixm (s := s18_7) Tryd.underlying130 gsz90 rfl rfl nz22_10 (lt_of_get nz22_10 hz22_10)) (by decide) ?_
      refine VL.q (q_el (s := s18_7) gone90 rfl hz22_10 rfl) (by decide) ?_
      refine VL.q (q_assign rfl) (by decide) ?_
      refine VL.to (fun _ _ h => h) ?_
      refine VC.seq ?_
      refine VC.region ?_
      refine VL.q (q_move rfl) (by decide) ?_
      refine VL.q (q_neq rfl rfl) (by decide) ?_
      refine VL.to (fun _ _ h => h) ?_
      refine VC.cond_ndec rfl (fun h25 => ?_) (fun h25 => ?_)
      ·
        replace hS := it_f h25 hS
        refine VC.seq ?_
        refine VC.region ?_
        refine VL.q (q_fes gagg62 rfl rfl) (by decide) ?_
        refine VL.q (q_move rfl) (by decide) ?_
        refine VL.q (q_mkif Tryd.underlying90 (fun _ h => by cases h) rfl) (by decide) ?_
        obtain ⟨y29_11, ey29_11, hS⟩ := bd_s hS
        refine VL.callF (cmd_fault_ct c_0 (Er.no z22_10) ey29_11) rfl (by decide) ?_
        rintro q29_11_0 rfl
        try dsimp only
        refine VL.q (q_assign rfl) (by decide) ?_
        refine VL.to (fun _ _ h => h) ?_
        refine VC.keep [2] rfl ?_
        replace hS := up2 hS hK1
        cases hS
        exact VC.ret (fin1 (.inr rfl) rfl rfl q29_11_0 rfl rfl (by (try dsimp only); exact InM.out) (fun _ _ => trivial))
      ·
        replace hS := it_t h25 hS
        refine VC.skip_to (fun _ _ h => h) ?_
        refine VC.region ?_
        obtain ⟨b30, hS⟩ := gd_s hS
        refine VL.q (q_add rfl rfl b30) (by decide) ?_
        refine VL.q (q_move rfl) (by decide) ?_
        refine VL.rnd (x20_9 + 1) [1, 18, 19, 20] (fun _ _ h => h) (go2 hS hK1) rfl
    ·
      replace hS := it_f h21 hS
      replace hS := up2 hS hK1
      refine VC.exit_to (fun _ _ h => h) ?_
      refine VC.seq ?_
      refine VC.region ?_
      refine VL.q (q_assign rfl) (by decide) ?_
      refine VL.to (fun _ _ h => h) ?_
      cases hS
      exact VC.ret (fin1 (.inr rfl) rfl rfl .nil rfl rfl (by (try dsimp only); exact InM.out) (fun _ _ => trivial))

set_option maxHeartbeats 4000000 in
set_option maxRecDepth 100000 in
theorem cmd_Parse_ct (a_0 : Str) {r : CmdCmdP × Err} (hS : Sh.cmd_Parse a_0 = some r) :
    Ct Tryd.prog 36 [str a_0] Mo.tt (Ow.emp) (X := CmdCmd × Er) (fun x => .tuple #[.agg (Dat.enc x.1).toArray, x.2.val]) (fun x => r = (x.1.pl, x.2.pl)) (fun x => (x.1.m.and x.2.ok)) (fun x => Ow.emp) := by
  refine Ct.of Tryd.func36 rfl (by kernel_rfl) Tryd.ntmps36 (by simp) fun c => ?_
  unfold Sh.cmd_Parse at hS
  refine VC.seq ?_
  refine VC.region ?_
  refine VL.alloc (cs := [str [], str [], i64 0, str [], .bool false, .slice none 0 0]) (by kernel_rfl) (by decide) fun b2_1 => ?_
  refine VL.q (q_assign rfl) (by decide) ?_
  refine VL.to (fun _ _ h => h) ?_
  refine VC.seq ?_
  refine VC.region ?_
  refine VL.q (q_move rfl) (by decide) ?_
  obtain ⟨y14_2, ey14_2, hS⟩ := bd_s hS
  refine VL.q (q_call (strings_Cut_ct a_0 [10] ey14_2) rfl (fun _ _ => rfl)) (by decide) ?_
  refine VL.q (q_move rfl) (by decide) ?_
  refine VL.q (q_extract rfl rfl) (by decide) ?_
  refine VL.q (q_extract rfl rfl) (by decide) ?_
  refine VL.q (q_extract rfl rfl) (by decide) ?_
  refine VL.q (q_assign rfl) (by decide) ?_
  refine VL.q (q_assign rfl) (by decide) ?_
  refine VL.q (q_assign rfl) (by decide) ?_
  refine VL.to (fun _ _ h => h) ?_
  refine VC.keep [2, 4, 5, 6] rfl ?_
  refine VC.seq ?_
  refine VC.region ?_
  refine VL.q (q_move rfl) (by decide) ?_
  obtain ⟨y20_3, ey20_3, hS⟩ := bd_s hS
  refine VL.callF (cmd_read_ct y14_2.1 ey20_3) rfl (by decide) ?_
  rintro ⟨q20_3_0, q20_3_1⟩ rfl
  try dsimp only
  refine VL.q (q_move rfl) (by decide) ?_
  refine VL.q (q_extract rfl rfl) (by decide) ?_
  refine VL.q (q_extract rfl rfl) (by decide) ?_
  refine VL.alloc (cs := [str [], str [], i64 0, str [], .bool false, .slice none 0 0]) (by kernel_rfl) (by decide) fun b7_4 => ?_
  refine VL.store (vc := [str q20_3_0.verb, str q20_3_0.name, i64 q20_3_0.n, str q20_3_0.text, .bool q20_3_0.force, q20_3_0.todo.val]) (cs' := [str q20_3_0.verb, str q20_3_0.name, i64 q20_3_0.n, str q20_3_0.text, .bool q20_3_0.force, q20_3_0.todo.val]) rfl rfl rfl gsz62 rfl rfl (Nat.le_of_ble_eq_true rfl) rfl ?_
  refine VL.q (q_assign rfl) (by decide) ?_
  refine VL.to (fun _ _ h => h) ?_
  refine VC.cutJ (S := Sv TodoStep) (fun (c5_5 : Sv TodoStep) => c5_5.l) (fun (c5_5 : Sv TodoStep) => [(2, ptr b2_1 0), (7, ptr b7_4 0)]) (fun (c5_5 : Sv TodoStep) => c5_5.ok) (fun (c5_5 : Sv TodoStep) => Ow.star (Blk b7_4 [str q20_3_0.verb, str q20_3_0.name, i64 q20_3_0.n, str q20_3_0.text, .bool q20_3_0.force, c5_5.val] 62) (Ow.star (Blk b2_1 [str [], str [], i64 0, str [], .bool false, .slice none 0 0] 62) (Ow.emp))) hS ?_ ?_
  · -- up to where ways meet
    clear hS
    intro k6 hS
    refine VC.block ?_
    refine VC.seq ?_
    refine VC.region ?_
    refine VL.q (q_field gfa62_0 rfl) (by decide) ?_
    refine VL.q (q_fe gone9 rfl rfl) (by decide) ?_
    obtain ⟨y26_7, ey26_7, hS⟩ := bd_s hS
    refine VL.q (q_call (cmd_place_ct q20_3_0.verb ey26_7) rfl (fun _ _ => rfl)) (by decide) ?_
    refine VL.q (q_lss rfl rfl) (by decide) ?_
    refine VL.q (q_assign rfl) (by decide) ?_
    refine VL.to (fun _ _ h => h) ?_
    refine VC.keep [2, 5, 6, 7, 8, 23] rfl ?_
    refine VC.cond_dec rfl (fun h23 => ?_) (fun h23 => ?_)
    ·
      replace hS := it_t h23 hS
      refine VC.seq ?_
      refine VC.region ?_
      refine VL.q (q_build (vs := []) (cs := #[str [], str [], i64 0, str [], .bool false, .slice none 0 0]) rfl (by kernel_rfl)) (by decide) ?_
      refine VL.q (q_fes gagg62 rfl rfl) (by decide) ?_
      refine VL.q (q_mkif Tryd.underlying90 (fun _ h => by cases h) rfl) (by decide) ?_
      obtain ⟨y31_8, ey31_8, hS⟩ := bd_s hS
      refine VL.callF (cmd_fault_ct q20_3_0 (Er.no 5) ey31_8) rfl (by decide) ?_
      rintro q31_8_0 rfl
      try dsimp only
      refine VL.store (vc := [str [], str [], i64 0, str [], .bool false, .slice none 0 0]) (cs' := [str [], str [], i64 0, str [], .bool false, .slice none 0 0]) rfl rfl rfl gsz62 rfl rfl (Nat.le_of_ble_eq_true rfl) rfl ?_
      refine VL.q (q_assign rfl) (by decide) ?_
      refine VL.to (fun _ _ h => h) ?_
      refine VC.keep [2, 3] rfl ?_
      cases hS
      exact VC.ret (finG (vs := [.agg #[str [], str [], i64 0, str [], .bool false, .slice none 0 0], q31_8_0.val]) (.inr rfl) rfl (RVs.cell gagg62 rfl rfl Rd.blk (RVs.tmp rfl (RVs.nil))) (⟨[], [], 0, [], false, ⟨none, 0, []⟩⟩, q31_8_0) rfl rfl (by (try dsimp only); exact InM.out) (fun _ _ => trivial))
    ·
      replace hS := it_f h23 hS
      refine VC.cutJ (S := Bool) (fun (x32_9 : Bool) => x32_9) (fun (x32_9 : Bool) => [(2, ptr b2_1 0), (5, str y14_2.2.1), (7, ptr b7_4 0), (32, .bool x32_9)]) (fun (x32_9 : Bool) => Mo.tt) (fun (x32_9 : Bool) => Ow.star (Blk b7_4 [str q20_3_0.verb, str q20_3_0.name, i64 q20_3_0.n, str q20_3_0.text, .bool q20_3_0.force, q20_3_0.todo.val] 62) (Ow.star (Blk b2_1 [str [], str [], i64 0, str [], .bool false, .slice none 0 0] 62) (Ow.emp))) hS ?_ ?_
      · -- up to where ways meet
        clear hS
        intro k10 hS
        refine VC.region ?_
        refine VL.q (q_move rfl) (by decide) ?_
        refine VL.q (q_not rfl) (by decide) ?_
        refine VL.q (q_move rfl) (by decide) ?_
        refine VL.split 35 rfl (fun h35 => ?_) (fun h35 => ?_)
        ·
          replace hS := it_t h35 hS
          refine VL.gn rfl rfl rfl (by decide) ?_
          refine VL.gn rfl rfl rfl (by decide) ?_
          refine VL.gu rfl rfl (by decide) ?_
          refine VL.gu rfl rfl (by decide) ?_
          refine VL.gu rfl rfl (by decide) ?_
          refine VL.gn rfl rfl rfl (by decide) ?_
          refine VL.q (q_pick_t rfl rfl) (by decide) ?_
          refine VL.q (q_assign rfl) (by decide) ?_
          refine VL.mt true [2, 5, 7, 32] (fun _ _ h => h) hS rfl
        ·
          replace hS := it_b h35 hS
          refine VL.gy rfl rfl (q_move rfl) (by decide) ?_
          refine VL.gy rfl rfl (q_move rfl) (by decide) ?_
          refine VL.split 37 rfl (fun h37 => ?_) (fun h37 => ?_)
          ·
            replace hS := it_t h37 hS
            refine VL.gy rfl rfl (q_field gfa62_0 rfl) (by decide) ?_
            refine VL.gy rfl rfl (q_fe gone9 rfl rfl) (by decide) ?_
            refine VL.gy rfl rfl (q_sne rfl rfl) (by decide) ?_
            refine VL.gy rfl rfl (q_pick_t rfl rfl) (by decide) ?_
            refine VL.q (q_pick_f rfl rfl) (by decide) ?_
            refine VL.q (q_assign rfl) (by decide) ?_
            refine VL.mt (!decide (q20_3_0.verb = [114, 101, 98, 97, 115, 101])) [2, 5, 7, 32] (fun _ _ h => h) hS rfl
          ·
            replace hS := it_b h37 hS
            refine VL.gn rfl rfl rfl (by decide) ?_
            refine VL.gn rfl rfl rfl (by decide) ?_
            refine VL.gn rfl rfl rfl (by decide) ?_
            refine VL.gy rfl rfl (q_pick_f rfl rfl) (by decide) ?_
            refine VL.q (q_pick_f rfl rfl) (by decide) ?_
            refine VL.q (q_assign rfl) (by decide) ?_
            refine VL.mt false [2, 5, 7, 32] (fun _ _ h => h) hS rfl
      · -- from there
        clear hS
        rintro x32_9 hS
        show VC _ _ _ _ _ [(2, ptr b2_1 0), (5, str y14_2.2.1), (7, ptr b7_4 0), (32, .bool x32_9)] (Mo.and Mo.tt _) (Ow.star (Blk b7_4 [str q20_3_0.verb, str q20_3_0.name, i64 q20_3_0.n, str q20_3_0.text, .bool q20_3_0.force, q20_3_0.todo.val] 62) (Ow.star (Blk b2_1 [str [], str [], i64 0, str [], .bool false, .slice none 0 0] 62) (Ow.emp)))
        refine VC.cond rfl (fun h32 => ?_) (fun h32 => ?_)
        ·
          replace hS := it_t h32 hS
          refine VC.seq ?_
          refine VC.region ?_
          refine VL.q (q_build (vs := []) (cs := #[str [], str [], i64 0, str [], .bool false, .slice none 0 0]) rfl (by kernel_rfl)) (by decide) ?_
          refine VL.q (q_fes gagg62 rfl rfl) (by decide) ?_
          refine VL.q (q_mkif Tryd.underlying90 (fun _ h => by cases h) rfl) (by decide) ?_
          obtain ⟨y46_11, ey46_11, hS⟩ := bd_s hS
          refine VL.callF (cmd_fault_ct q20_3_0 (Er.no 2) ey46_11) rfl (by decide) ?_
          rintro q46_11_0 rfl
          try dsimp only
          refine VL.store (vc := [str [], str [], i64 0, str [], .bool false, .slice none 0 0]) (cs' := [str [], str [], i64 0, str [], .bool false, .slice none 0 0]) rfl rfl rfl gsz62 rfl rfl (Nat.le_of_ble_eq_true rfl) rfl ?_
          refine VL.q (q_assign rfl) (by decide) ?_
          refine VL.to (fun _ _ h => h) ?_
          cases hS
          exact VC.ret (finG (vs := [.agg #[str [], str [], i64 0, str [], .bool false, .slice none 0 0], q46_11_0.val]) (.inr rfl) rfl (RVs.cell gagg62 rfl rfl Rd.blk (RVs.tmp rfl (RVs.nil))) (⟨[], [], 0, [], false, ⟨none, 0, []⟩⟩, q46_11_0) rfl rfl (by (try dsimp only); exact InM.out) (fun _ _ => trivial))
        ·
          replace hS := it_b h32 hS
          refine VC.seq ?_
          refine VC.region ?_
          refine VL.q (q_field gfa62_0 rfl) (by decide) ?_
          refine VL.q (q_fe gone9 rfl rfl) (by decide) ?_
          refine VL.q (q_seq rfl rfl) (by decide) ?_
          refine VL.q (q_assign rfl) (by decide) ?_
          refine VL.to (fun _ _ h => h) ?_
          refine VC.cond_dec rfl (fun h47 => ?_) (fun h47 => ?_)
          ·
            replace hS := it_t h47 hS
            refine VC.seq ?_
            refine VC.region ?_
            refine VL.q (q_move rfl) (by decide) ?_
            obtain ⟨y53_12, ey53_12, hS⟩ := bd_s hS
            refine VL.callF (todo_Parse_ct y14_2.2.1 ey53_12) rfl (by decide) ?_
            rintro ⟨q53_12_0, q53_12_1⟩ rfl
            try dsimp only
            refine VL.q (q_move rfl) (by decide) ?_
            refine VL.q (q_extract rfl rfl) (by decide) ?_
            refine VL.q (q_extract rfl rfl) (by decide) ?_
            refine VL.q (q_assign rfl) (by decide) ?_
            refine VL.q (q_assign rfl) (by decide) ?_
            refine VL.to (fun _ _ h => h) ?_
            refine VC.keep [2, 7, 9, 10] rfl ?_
            refine VC.seq ?_
            refine VC.seq ?_
            refine VC.region ?_
            refine VL.q (q_move rfl) (by decide) ?_
            refine VL.q (q_erne Tryd.underlying29 rfl) (by decide) ?_
            refine VL.to (fun _ _ h => h) ?_
            refine VC.cond_ndec rfl (fun h57 => ?_) (fun h57 => ?_)
            ·
              replace hS := it_f h57 hS
              refine VC.seq ?_
              refine VC.region ?_
              refine VL.q (q_build (vs := []) (cs := #[str [], str [], i64 0, str [], .bool false, .slice none 0 0]) rfl (by kernel_rfl)) (by decide) ?_
              refine VL.q (q_fes gagg62 rfl rfl) (by decide) ?_
              refine VL.q (q_move rfl) (by decide) ?_
              obtain ⟨y61_13, ey61_13, hS⟩ := bd_s hS
              refine VL.callF (cmd_fault_ct q20_3_0 q53_12_1 ey61_13) rfl (by decide) ?_
              rintro q61_13_0 rfl
              try dsimp only
              refine VL.store (vc := [str [], str [], i64 0, str [], .bool false, .slice none 0 0]) (cs' := [str [], str [], i64 0, str [], .bool false, .slice none 0 0]) rfl rfl rfl gsz62 rfl rfl (Nat.le_of_ble_eq_true rfl) rfl ?_
              refine VL.q (q_assign rfl) (by decide) ?_
              refine VL.to (fun _ _ h => h) ?_
              refine VC.keep [2, 3] rfl ?_
              cases hS
              exact VC.ret (finG (vs := [.agg #[str [], str [], i64 0, str [], .bool false, .slice none 0 0], q61_13_0.val]) (.inr rfl) rfl (RVs.cell gagg62 rfl rfl Rd.blk (RVs.tmp rfl (RVs.nil))) (⟨[], [], 0, [], false, ⟨none, 0, []⟩⟩, q61_13_0) rfl rfl (by (try dsimp only); exact InM.out) (fun _ _ => trivial))
            ·
              replace hS := it_t h57 hS
              refine VC.skip_to (fun _ _ h => h) ?_
              refine VC.region ?_
              refine VL.q (q_move rfl) (by decide) ?_
              refine VL.q (q_field gfa62_5 rfl) (by decide) ?_
              refine VL.store (vc := [q53_12_0.val]) (cs' := [str q20_3_0.verb, str q20_3_0.name, i64 q20_3_0.n, str q20_3_0.text, .bool q20_3_0.force, q53_12_0.val]) rfl rfl rfl gsz22 rfl rfl (Nat.le_of_ble_eq_true rfl) rfl ?_
              refine VL.mt q53_12_0 [2, 7] (fun _ _ h => h) hS rfl
          ·
            replace hS := it_f h47 hS
            refine VC.skip_mt q20_3_0.todo [2, 7] (fun _ _ h => h) hS rfl
  · -- from there
    clear hS
    rintro c5_5 hS
    show VC _ _ _ _ _ [(2, ptr b2_1 0), (7, ptr b7_4 0)] (Mo.and c5_5.ok _) (Ow.star (Blk b7_4 [str q20_3_0.verb, str q20_3_0.name, i64 q20_3_0.n, str q20_3_0.text, .bool q20_3_0.force, c5_5.val] 62) (Ow.star (Blk b2_1 [str [], str [], i64 0, str [], .bool false, .slice none 0 0] 62) (Ow.emp)))
    refine VC.seq ?_
    refine VC.seq ?_
    refine VC.region ?_
    refine VL.q (q_fes gagg62 rfl rfl) (by decide) ?_
    obtain ⟨y65_14, ey65_14, hS⟩ := bd_s hS
    refine VL.callF (cmd_Check_ct (⟨q20_3_0.verb, q20_3_0.name, q20_3_0.n, q20_3_0.text, q20_3_0.force, c5_5⟩ : CmdCmd) ey65_14) rfl (by decide) ?_
    rintro q65_14_0 rfl
    try dsimp only
    refine VL.q (q_assign rfl) (by decide) ?_
    refine VL.to (fun _ _ h => h) ?_
    refine VC.seq ?_
    refine VC.region ?_
    refine VL.q (q_move rfl) (by decide) ?_
    refine VL.q (q_erne Tryd.underlying29 rfl) (by decide) ?_
    refine VL.to (fun _ _ h => h) ?_
    refine VC.cond_ndec rfl (fun h67 => ?_) (fun h67 => ?_)
    ·
      replace hS := it_f h67 hS
      refine VC.seq ?_
      refine VC.region ?_
      refine VL.q (q_build (vs := []) (cs := #[str [], str [], i64 0, str [], .bool false, .slice none 0 0]) rfl (by kernel_rfl)) (by decide) ?_
      refine VL.q (q_move rfl) (by decide) ?_
      refine VL.store (vc := [str [], str [], i64 0, str [], .bool false, .slice none 0 0]) (cs' := [str [], str [], i64 0, str [], .bool false, .slice none 0 0]) rfl rfl rfl gsz62 rfl rfl (Nat.le_of_ble_eq_true rfl) rfl ?_
      refine VL.q (q_assign rfl) (by decide) ?_
      refine VL.to (fun _ _ h => h) ?_
      cases hS
      exact VC.ret (finG (vs := [.agg #[str [], str [], i64 0, str [], .bool false, .slice none 0 0], q65_14_0.val]) (.inr rfl) rfl (RVs.cell gagg62 rfl rfl Rd.blk (RVs.tmp rfl (RVs.nil))) (⟨[], [], 0, [], false, ⟨none, 0, []⟩⟩, q65_14_0) rfl rfl (by (try dsimp only); exact InM.out) (fun _ _ => trivial))
    ·
      replace hS := it_t h67 hS
      refine VC.skip_to (fun _ _ h => h) ?_
      refine VC.seq ?_
      refine VC.region ?_
      refine VL.q (q_fes gagg62 rfl rfl) (by decide) ?_
      refine VL.store (vc := [str q20_3_0.verb, str q20_3_0.name, i64 q20_3_0.n, str q20_3_0.text, .bool q20_3_0.force, c5_5.val]) (cs' := [str q20_3_0.verb, str q20_3_0.name, i64 q20_3_0.n, str q20_3_0.text, .bool q20_3_0.force, c5_5.val]) rfl rfl rfl gsz62 rfl rfl (Nat.le_of_ble_eq_true rfl) rfl ?_
      refine VL.q (q_assign rfl) (by decide) ?_
      refine VL.to (fun _ _ h => h) ?_
      cases hS
      exact VC.ret (finG (vs := [.agg #[str q20_3_0.verb, str q20_3_0.name, i64 q20_3_0.n, str q20_3_0.text, .bool q20_3_0.force, c5_5.val], .nilIface]) (.inr rfl) rfl (RVs.cell gagg62 rfl rfl Rd.blk (RVs.tmp rfl (RVs.nil))) (⟨q20_3_0.verb, q20_3_0.name, q20_3_0.n, q20_3_0.text, q20_3_0.force, c5_5⟩, .nil) rfl rfl (by (try dsimp only); exact InM.out) (fun _ _ => trivial))

set_option maxHeartbeats 4000000 in
set_option maxRecDepth 100000 in
theorem cmd_has_ct (c_0 : CmdCmd) {r : Bool × Bool × Bool × Bool} (hS : Sh.cmd_has c_0.pl = some r) :
    Ct Tryd.prog 75 [.agg #[str c_0.verb, str c_0.name, i64 c_0.n, str c_0.text, .bool c_0.force, c_0.todo.val]] c_0.todo.ok (Ow.emp) (X := Unit) (fun _ => .tuple #[.bool r.1, .bool r.2.1, .bool r.2.2.1, .bool r.2.2.2]) (fun _ => True) (fun _ => Mo.tt) (fun _ => Ow.emp) := by
  refine Ct.of Tryd.func75 rfl (by kernel_rfl) Tryd.ntmps75 (by simp) fun c => ?_
  unfold Sh.cmd_has at hS
  refine VC.seq ?_
  refine VC.region ?_
  refine VL.box (cs := [str c_0.verb, str c_0.name, i64 c_0.n, str c_0.text, .bool c_0.force, c_0.todo.val]) rfl rfl (by decide) fun b1_1 => ?_
  refine VL.q (q_assign rfl) (by decide) ?_
  refine VL.q (q_assign rfl) (by decide) ?_
  refine VL.q (q_assign rfl) (by decide) ?_
  refine VL.q (q_assign rfl) (by decide) ?_
  refine VL.to (fun _ _ h => h) ?_
  refine VC.cutJ (S := Bool × Bool × Bool × Bool) (fun sg => (sg.1, sg.2.1, sg.2.2.1, sg.2.2.2)) (fun sg => [(1, ptr b1_1 0), (2, .bool sg.1), (3, .bool sg.2.1), (4, .bool sg.2.2.1), (5, .bool sg.2.2.2)]) (fun sg => Mo.tt) (fun sg => Ow.star (Blk b1_1 [str c_0.verb, str c_0.name, i64 c_0.n, str c_0.text, .bool c_0.force, c_0.todo.val] 62) (Ow.emp)) hS ?_ ?_
  · -- up to where ways meet
    clear hS
    intro k6 hS
    refine VC.seq ?_
    refine VC.region ?_
    refine VL.q (q_field gfa62_0 rfl) (by decide) ?_
    refine VL.q (q_fe gone9 rfl rfl) (by decide) ?_
    refine VL.to (fun _ _ h => h) ?_
    refine VC.block ?_
    refine VC.cutJ (S := Unit) (fun (_ : Unit) => ()) (fun (_ : Unit) => [(1, ptr b1_1 0), (2, .bool false), (3, .bool false), (4, .bool false)]) (fun (_ : Unit) => Mo.tt) (fun (_ : Unit) => Ow.star (Blk b1_1 [str c_0.verb, str c_0.name, i64 c_0.n, str c_0.text, .bool c_0.force, c_0.todo.val] 62) (Ow.emp)) hS ?_ ?_
    · -- up to where ways meet
      clear hS
      intro k7 hS
      refine VC.block ?_
      refine VC.seq ?_
      refine VC.block ?_
      refine VC.cutJ (S := Unit) (fun (_ : Unit) => ()) (fun (_ : Unit) => [(1, ptr b1_1 0), (4, .bool false), (5, .bool false)]) (fun (_ : Unit) => Mo.tt) (fun (_ : Unit) => Ow.star (Blk b1_1 [str c_0.verb, str c_0.name, i64 c_0.n, str c_0.text, .bool c_0.force, c_0.todo.val] 62) (Ow.emp)) hS ?_ ?_
      · -- up to where ways meet
        clear hS
        intro k8 hS
        refine VC.block ?_
        refine VC.cutJ (S := Bool) (fun (forced4_9 : Bool) => forced4_9) (fun (forced4_9 : Bool) => [(1, ptr b1_1 0), (3, .bool false), (4, .bool forced4_9), (5, .bool false)]) (fun (forced4_9 : Bool) => Mo.tt) (fun (forced4_9 : Bool) => Ow.star (Blk b1_1 [str c_0.verb, str c_0.name, i64 c_0.n, str c_0.text, .bool c_0.force, c_0.todo.val] 62) (Ow.emp)) hS ?_ ?_
        · -- up to where ways meet
          clear hS
          intro k10 hS
          refine VC.block ?_
          refine VC.seq ?_
          refine VC.block ?_
          refine VC.seq ?_
          refine VC.block ?_
          refine VC.seq ?_
          refine VC.seq ?_
          refine VC.seq ?_
          refine VC.region ?_
          refine VL.q (q_seq rfl rfl) (by decide) ?_
          refine VL.q (q_assign rfl) (by decide) ?_
          refine VL.to (fun _ _ h => h) ?_
          refine VC.cond_dec rfl (fun h8 => ?_) (fun h8 => ?_)
          ·
            replace hS := it_t h8 hS
            refine VC.exit_to (fun _ _ h => h) ?_
            refine VC.seq ?_
            refine VC.seq ?_
            refine VC.region ?_
            refine VL.q (q_field gfa62_1 rfl) (by decide) ?_
            refine VL.q (q_fe gone9 rfl rfl) (by decide) ?_
            refine VL.q (q_seq rfl rfl) (by decide) ?_
            refine VL.q (q_assign rfl) (by decide) ?_
            refine VL.q (q_assign rfl) (by decide) ?_
            refine VL.to (fun _ _ h => h) ?_
            refine VC.keep [1, 3, 4, 5] rfl ?_
            refine VC.region ?_
            refine VL.q (q_move rfl) (by decide) ?_
            refine VL.q (q_not rfl) (by decide) ?_
            refine VL.q (q_assign rfl) (by decide) ?_
            refine VL.to (fun _ _ h => h) ?_
            refine VC.exit_mt ((!decide (c_0.name = [])), (decide (c_0.name = [])), true, false) [1, 2, 3, 4, 5] (fun _ _ h => h) hS rfl
          ·
            replace hS := it_f h8 hS
            refine VC.skip_to (fun _ _ h => h) ?_
            refine VC.seq ?_
            refine VC.seq ?_
            refine VC.region ?_
            refine VL.q (q_seq rfl rfl) (by decide) ?_
            refine VL.q (q_assign rfl) (by decide) ?_
            refine VL.to (fun _ _ h => h) ?_
            refine VC.cond_dec rfl (fun h10 => ?_) (fun h10 => ?_)
            ·
              replace hS := it_t h10 hS
              refine VC.exit_to (fun _ _ h => h) ?_
              refine VC.keep [1, 3, 5] rfl ?_
              refine VC.region ?_
              refine VL.q (q_assign rfl) (by decide) ?_
              refine VL.mt true [1, 3, 4, 5] (fun _ _ h => h) hS rfl
            ·
              replace hS := it_f h10 hS
              refine VC.skip_to (fun _ _ h => h) ?_
              refine VC.cutJ (S := Unit) (fun (_ : Unit) => ()) (fun (_ : Unit) => [(1, ptr b1_1 0), (2, .bool false), (3, .bool false), (4, .bool false), (5, .bool false), (7, str c_0.verb)]) (fun (_ : Unit) => Mo.tt) (fun (_ : Unit) => Ow.star (Blk b1_1 [str c_0.verb, str c_0.name, i64 c_0.n, str c_0.text, .bool c_0.force, c_0.todo.val] 62) (Ow.emp)) hS ?_ ?_
              · -- up to where ways meet
                clear hS
                intro k11 hS
                refine VC.seq ?_
                refine VC.seq ?_
                refine VC.region ?_
                refine VL.q (q_seq rfl rfl) (by decide) ?_
                refine VL.q (q_assign rfl) (by decide) ?_
                refine VL.to (fun _ _ h => h) ?_
                refine VC.keep [1, 2, 3, 4, 5, 7, 12] rfl ?_
                refine VC.cond_dec rfl (fun h12 => ?_) (fun h12 => ?_)
                ·
                  replace hS := it_t h12 hS
                  refine VC.skip_to (fun _ _ h => h) ?_
                  refine VC.cond_dec rfl (fun h12 => ?_) (fun h12 => ?_)
                  ·
                    replace hS := it_t h12 hS
                    refine VC.exit_mt false [1, 3, 4, 5] (fun _ _ h => h) hS rfl
                  ·
                    replace hS := it_f h12 hS
                    refine VC.skip_mt () [1, 2, 3, 4, 5, 7] (fun _ _ h => h) hS rfl
                ·
                  replace hS := it_f h12 hS
                  refine VC.seq ?_
                  refine VC.region ?_
                  refine VL.q (q_seq rfl rfl) (by decide) ?_
                  refine VL.q (q_assign rfl) (by decide) ?_
                  refine VL.to (fun _ _ h => h) ?_
                  refine VC.cond_dec rfl (fun h12 => ?_) (fun h12 => ?_)
                  ·
                    replace hS := it_t h12 hS
                    refine VC.skip_to (fun _ _ h => h) ?_
                    refine VC.cond_dec rfl (fun h12 => ?_) (fun h12 => ?_)
                    ·
                      replace hS := it_t h12 hS
                      refine VC.exit_mt false [1, 3, 4, 5] (fun _ _ h => h) hS rfl
                    ·
                      replace hS := it_f h12 hS
                      refine VC.skip_mt () [1, 2, 3, 4, 5, 7] (fun _ _ h => h) hS rfl
                  ·
                    replace hS := it_f h12 hS
                    refine VC.seq ?_
                    refine VC.region ?_
                    refine VL.q (q_seq rfl rfl) (by decide) ?_
                    refine VL.q (q_assign rfl) (by decide) ?_
                    refine VL.to (fun _ _ h => h) ?_
                    refine VC.cond_dec rfl (fun h12 => ?_) (fun h12 => ?_)
                    ·
                      replace hS := it_t h12 hS
                      refine VC.skip_to (fun _ _ h => h) ?_
                      refine VC.cond_dec rfl (fun h12 => ?_) (fun h12 => ?_)
                      ·
                        replace hS := it_t h12 hS
                        refine VC.exit_mt false [1, 3, 4, 5] (fun _ _ h => h) hS rfl
                      ·
                        replace hS := it_f h12 hS
                        refine VC.skip_mt () [1, 2, 3, 4, 5, 7] (fun _ _ h => h) hS rfl
                    ·
                      replace hS := it_f h12 hS
                      refine VC.region ?_
                      refine VL.q (q_seq rfl rfl) (by decide) ?_
                      refine VL.q (q_assign rfl) (by decide) ?_
                      refine VL.to (fun _ _ h => h) ?_
                      refine VC.cond_dec rfl (fun h12 => ?_) (fun h12 => ?_)
                      ·
                        replace hS := it_t h12 hS
                        refine VC.exit_mt false [1, 3, 4, 5] (fun _ _ h => h) hS rfl
                      ·
                        replace hS := it_f h12 hS
                        refine VC.skip_mt () [1, 2, 3, 4, 5, 7] (fun _ _ h => h) hS rfl
              · -- from there
                clear hS
                rintro _ hS
                show VC _ _ _ _ _ [(1, ptr b1_1 0), (2, .bool false), (3, .bool false), (4, .bool false), (5, .bool false), (7, str c_0.verb)] (Mo.and Mo.tt _) (Ow.star (Blk b1_1 [str c_0.verb, str c_0.name, i64 c_0.n, str c_0.text, .bool c_0.force, c_0.todo.val] 62) (Ow.emp))
                refine VC.seq ?_
                refine VC.seq ?_
                refine VC.region ?_
                refine VL.q (q_seq rfl rfl) (by decide) ?_
                refine VL.q (q_assign rfl) (by decide) ?_
                refine VL.to (fun _ _ h => h) ?_
                refine VC.cond_dec rfl (fun h17 => ?_) (fun h17 => ?_)
                ·
                  replace hS := it_t h17 hS
                  refine VC.exit_mt () [1, 4, 5] (fun _ _ h => h) hS rfl
                ·
                  replace hS := it_f h17 hS
                  refine VC.skip_to (fun _ _ h => h) ?_
                  refine VC.cutJ (S := Unit) (fun (_ : Unit) => ()) (fun (_ : Unit) => [(1, ptr b1_1 0), (2, .bool false), (3, .bool false), (4, .bool false), (5, .bool false), (7, str c_0.verb)]) (fun (_ : Unit) => Mo.tt) (fun (_ : Unit) => Ow.star (Blk b1_1 [str c_0.verb, str c_0.name, i64 c_0.n, str c_0.text, .bool c_0.force, c_0.todo.val] 62) (Ow.emp)) hS ?_ ?_
                  · -- up to where ways meet
                    clear hS
                    intro k12 hS
                    refine VC.seq ?_
                    refine VC.seq ?_
                    refine VC.region ?_
                    refine VL.q (q_seq rfl rfl) (by decide) ?_
                    refine VL.q (q_assign rfl) (by decide) ?_
                    refine VL.to (fun _ _ h => h) ?_
                    refine VC.cond_dec rfl (fun h19 => ?_) (fun h19 => ?_)
                    ·
                      replace hS := it_t h19 hS
                      refine VC.skip_to (fun _ _ h => h) ?_
                      refine VC.cond_dec rfl (fun h19 => ?_) (fun h19 => ?_)
                      ·
                        replace hS := it_t h19 hS
                        refine VC.exit_to (fun _ _ h => h) ?_
                        refine VC.seq ?_
                        refine VC.region ?_
                        refine VL.q (q_assign rfl) (by decide) ?_
                        refine VL.to (fun _ _ h => h) ?_
                        refine VC.exit_mt (false, true, false, false) [1, 2, 3, 4, 5] (fun _ _ h => h) hS rfl
                      ·
                        replace hS := it_f h19 hS
                        refine VC.skip_mt () [1, 2, 3, 4, 5, 7] (fun _ _ h => h) hS rfl
                    ·
                      replace hS := it_f h19 hS
                      refine VC.seq ?_
                      refine VC.region ?_
                      refine VL.q (q_seq rfl rfl) (by decide) ?_
                      refine VL.q (q_assign rfl) (by decide) ?_
                      refine VL.to (fun _ _ h => h) ?_
                      refine VC.cond_dec rfl (fun h19 => ?_) (fun h19 => ?_)
                      ·
                        replace hS := it_t h19 hS
                        refine VC.skip_to (fun _ _ h => h) ?_
                        refine VC.cond_dec rfl (fun h19 => ?_) (fun h19 => ?_)
                        ·
                          replace hS := it_t h19 hS
                          refine VC.exit_to (fun _ _ h => h) ?_
                          refine VC.keep [1, 2, 4, 5] rfl ?_
                          refine VC.seq ?_
                          refine VC.region ?_
                          refine VL.q (q_assign rfl) (by decide) ?_
                          refine VL.to (fun _ _ h => h) ?_
                          refine VC.exit_mt (false, true, false, false) [1, 2, 3, 4, 5] (fun _ _ h => h) hS rfl
                        ·
                          replace hS := it_f h19 hS
                          refine VC.skip_mt () [1, 2, 3, 4, 5, 7] (fun _ _ h => h) hS rfl
                      ·
                        replace hS := it_f h19 hS
                        refine VC.seq ?_
                        refine VC.region ?_
                        refine VL.q (q_seq rfl rfl) (by decide) ?_
                        refine VL.q (q_assign rfl) (by decide) ?_
                        refine VL.to (fun _ _ h => h) ?_
                        refine VC.cond_dec rfl (fun h19 => ?_) (fun h19 => ?_)
                        ·
                          replace hS := it_t h19 hS
                          refine VC.skip_to (fun _ _ h => h) ?_
                          refine VC.cond_dec rfl (fun h19 => ?_) (fun h19 => ?_)
                          ·
                            replace hS := it_t h19 hS
                            refine VC.exit_to (fun _ _ h => h) ?_
                            refine VC.keep [1, 2, 4, 5] rfl ?_
                            refine VC.seq ?_
                            refine VC.region ?_
                            refine VL.q (q_assign rfl) (by decide) ?_
                            refine VL.to (fun _ _ h => h) ?_
                            refine VC.exit_mt (false, true, false, false) [1, 2, 3, 4, 5] (fun _ _ h => h) hS rfl
                          ·
                            replace hS := it_f h19 hS
                            refine VC.skip_mt () [1, 2, 3, 4, 5, 7] (fun _ _ h => h) hS rfl
                        ·
                          replace hS := it_f h19 hS
                          refine VC.seq ?_
                          refine VC.region ?_
                          refine VL.q (q_seq rfl rfl) (by decide) ?_
                          refine VL.q (q_assign rfl) (by decide) ?_
                          refine VL.to (fun _ _ h => h) ?_
                          refine VC.cond_dec rfl (fun h19 => ?_) (fun h19 => ?_)
                          ·
                            replace hS := it_t h19 hS
                            refine VC.skip_to (fun _ _ h => h) ?_
                            refine VC.cond_dec rfl (fun h19 => ?_) (fun h19 => ?_)
                            ·
                              replace hS := it_t h19 hS
                              refine VC.exit_to (fun _ _ h => h) ?_
                              refine VC.keep [1, 2, 4, 5] rfl ?_
                              refine VC.seq ?_
                              refine VC.region ?_
                              refine VL.q (q_assign rfl) (by decide) ?_
                              refine VL.to (fun _ _ h => h) ?_
                              refine VC.exit_mt (false, true, false, false) [1, 2, 3, 4, 5] (fun _ _ h => h) hS rfl
                            ·
                              replace hS := it_f h19 hS
                              refine VC.skip_mt () [1, 2, 3, 4, 5, 7] (fun _ _ h => h) hS rfl
                          ·
                            replace hS := it_f h19 hS
                            refine VC.seq ?_
                            refine VC.region ?_
                            refine VL.q (q_seq rfl rfl) (by decide) ?_
                            refine VL.q (q_assign rfl) (by decide) ?_
                            refine VL.to (fun _ _ h => h) ?_
                            refine VC.keep [1, 2, 3, 4, 5, 7, 19] rfl ?_
                            refine VC.cond_dec rfl (fun h19 => ?_) (fun h19 => ?_)
                            ·
                              replace hS := it_t h19 hS
                              refine VC.skip_to (fun _ _ h => h) ?_
                              refine VC.cond_dec rfl (fun h19 => ?_) (fun h19 => ?_)
                              ·
                                replace hS := it_t h19 hS
                                refine VC.exit_to (fun _ _ h => h) ?_
                                refine VC.seq ?_
                                refine VC.region ?_
                                refine VL.q (q_assign rfl) (by decide) ?_
                                refine VL.to (fun _ _ h => h) ?_
                                refine VC.exit_mt (false, true, false, false) [1, 2, 3, 4, 5] (fun _ _ h => h) hS rfl
                              ·
                                replace hS := it_f h19 hS
                                refine VC.skip_mt () [1, 2, 3, 4, 5, 7] (fun _ _ h => h) hS rfl
                            ·
                              replace hS := it_f h19 hS
                              refine VC.region ?_
                              refine VL.q (q_seq rfl rfl) (by decide) ?_
                              refine VL.q (q_assign rfl) (by decide) ?_
                              refine VL.to (fun _ _ h => h) ?_
                              refine VC.cond_dec rfl (fun h19 => ?_) (fun h19 => ?_)
                              ·
                                replace hS := it_t h19 hS
                                refine VC.exit_to (fun _ _ h => h) ?_
                                refine VC.seq ?_
                                refine VC.region ?_
                                refine VL.q (q_assign rfl) (by decide) ?_
                                refine VL.to (fun _ _ h => h) ?_
                                refine VC.exit_mt (false, true, false, false) [1, 2, 3, 4, 5] (fun _ _ h => h) hS rfl
                              ·
                                replace hS := it_f h19 hS
                                refine VC.skip_mt () [1, 2, 3, 4, 5, 7] (fun _ _ h => h) hS rfl
                  · -- from there
                    clear hS
                    rintro _ hS
                    show VC _ _ _ _ _ [(1, ptr b1_1 0), (2, .bool false), (3, .bool false), (4, .bool false), (5, .bool false), (7, str c_0.verb)] (Mo.and Mo.tt _) (Ow.star (Blk b1_1 [str c_0.verb, str c_0.name, i64 c_0.n, str c_0.text, .bool c_0.force, c_0.todo.val] 62) (Ow.emp))
                    refine VC.seq ?_
                    refine VC.seq ?_
                    refine VC.region ?_
                    refine VL.q (q_seq rfl rfl) (by decide) ?_
                    refine VL.q (q_assign rfl) (by decide) ?_
                    refine VL.to (fun _ _ h => h) ?_
                    refine VC.cond_dec rfl (fun h26 => ?_) (fun h26 => ?_)
                    ·
                      replace hS := it_t h26 hS
                      refine VC.skip_to (fun _ _ h => h) ?_
                      refine VC.cond_dec rfl (fun h26 => ?_) (fun h26 => ?_)
                      ·
                        replace hS := it_t h26 hS
                        refine VC.exit_mt () [1, 2, 3, 4] (fun _ _ h => h) hS rfl
                      ·
                        replace hS := it_f h26 hS
                        refine VC.skip_to (fun _ _ h => h) ?_
                        refine VC.exit_mt (false, false, false, false) [1, 2, 3, 4, 5] (fun _ _ h => h) hS rfl
                    ·
                      replace hS := it_f h26 hS
                      refine VC.region ?_
                      refine VL.q (q_seq rfl rfl) (by decide) ?_
                      refine VL.q (q_assign rfl) (by decide) ?_
                      refine VL.to (fun _ _ h => h) ?_
                      refine VC.cond_dec rfl (fun h26 => ?_) (fun h26 => ?_)
                      ·
                        replace hS := it_t h26 hS
                        refine VC.exit_mt () [1, 2, 3, 4] (fun _ _ h => h) hS rfl
                      ·
                        replace hS := it_f h26 hS
                        refine VC.skip_to (fun _ _ h => h) ?_
                        refine VC.exit_mt (false, false, false, false) [1, 2, 3, 4, 5] (fun _ _ h => h) hS rfl
        · -- from there
          clear hS
          rintro forced4_9 hS
          show VC _ _ _ _ _ [(1, ptr b1_1 0), (3, .bool false), (4, .bool forced4_9), (5, .bool false)] (Mo.and Mo.tt _) (Ow.star (Blk b1_1 [str c_0.verb, str c_0.name, i64 c_0.n, str c_0.text, .bool c_0.force, c_0.todo.val] 62) (Ow.emp))
          refine VC.seq ?_
          refine VC.region ?_
          refine VL.q (q_field gfa62_1 rfl) (by decide) ?_
          refine VL.q (q_fe gone9 rfl rfl) (by decide) ?_
          refine VL.q (q_sne rfl rfl) (by decide) ?_
          refine VL.q (q_assign rfl) (by decide) ?_
          refine VL.to (fun _ _ h => h) ?_
          refine VC.exit_mt ((!decide (c_0.name = [])), false, forced4_9, false) [1, 2, 3, 4, 5] (fun _ _ h => h) hS rfl
      · -- from there
        clear hS
        rintro _ hS
        show VC _ _ _ _ _ [(1, ptr b1_1 0), (4, .bool false), (5, .bool false)] (Mo.and Mo.tt _) (Ow.star (Blk b1_1 [str c_0.verb, str c_0.name, i64 c_0.n, str c_0.text, .bool c_0.force, c_0.todo.val] 62) (Ow.emp))
        refine VC.region ?_
        refine VL.q (q_field gfa62_1 rfl) (by decide) ?_
        refine VL.q (q_fe gone9 rfl rfl) (by decide) ?_
        refine VL.q (q_sne rfl rfl) (by decide) ?_
        refine VL.q (q_assign rfl) (by decide) ?_
        refine VL.to (fun _ _ h => h) ?_
        refine VC.seq ?_
        refine VC.region ?_
        refine VL.q (q_assign rfl) (by decide) ?_
        refine VL.to (fun _ _ h => h) ?_
        refine VC.exit_mt ((!decide (c_0.name = [])), true, false, false) [1, 2, 3, 4, 5] (fun _ _ h => h) hS rfl
    · -- from there
      clear hS
      rintro _ hS
      show VC _ _ _ _ _ [(1, ptr b1_1 0), (2, .bool false), (3, .bool false), (4, .bool false)] (Mo.and Mo.tt _) (Ow.star (Blk b1_1 [str c_0.verb, str c_0.name, i64 c_0.n, str c_0.text, .bool c_0.force, c_0.todo.val] 62) (Ow.emp))
      refine VC.seq ?_
      refine VC.region ?_
      refine VL.q (q_field gfa62_3 rfl) (by decide) ?_
      refine VL.q (q_fe gone9 rfl rfl) (by decide) ?_
      refine VL.q (q_sne rfl rfl) (by decide) ?_
      refine VL.q (q_assign rfl) (by decide) ?_
      refine VL.to (fun _ _ h => h) ?_
      refine VC.exit_mt (false, false, false, (!decide (c_0.text = []))) [1, 2, 3, 4, 5] (fun _ _ h => h) hS rfl
  · -- from there
    clear hS
    rintro ⟨named2_2, numbered3_3, forced4_4, told5_5⟩ hS
    show VC _ _ _ _ _ [(1, ptr b1_1 0), (2, .bool named2_2), (3, .bool numbered3_3), (4, .bool forced4_4), (5, .bool told5_5)] (Mo.and Mo.tt _) (Ow.star (Blk b1_1 [str c_0.verb, str c_0.name, i64 c_0.n, str c_0.text, .bool c_0.force, c_0.todo.val] 62) (Ow.emp))
    refine VC.seq ?_
    refine VC.draw ((List.range 12).map fun k => (k, true)) mixed (by kernel_rfl) (by kernel_rfl) (by kernel_rfl) ?_
    refine VD.q rfl (q_move rfl) (by decide) ?_
    refine VD.q rfl (q_move rfl) (by decide) ?_
    refine VD.q rfl (q_move rfl) (by decide) ?_
    refine VD.q rfl (q_move rfl) (by decide) ?_
    refine VD.split 46 rfl (fun h46 => ?_) (fun h46 => ?_)
    ·
      replace hS := it_t h46 hS
      refine VD.gy rfl rfl rfl (q_field gfa62_4 rfl) (by decide) ?_
      refine VD.gy rfl rfl rfl (q_fe gone4 rfl rfl) (by decide) ?_
      refine VD.q rfl (q_pick_t rfl rfl) (by decide) ?_
      refine VD.q rfl (q_move rfl) (by decide) ?_
      refine VD.q rfl (q_assign rfl) (by decide) ?_
      refine VD.q rfl (q_assign rfl) (by decide) ?_
      refine VD.q rfl (q_assign rfl) (by decide) ?_
      refine VD.q rfl (q_assign rfl) (by decide) ?_
      refine VD.to (fun _ _ h => h) ?_
      refine VC.keep [2, 3, 4, 5] rfl ?_
      cases hS
      exact VC.ret (finG (vs := [.bool named2_2, .bool numbered3_3, .bool c_0.force, .bool told5_5]) (.inr rfl) rfl (RVs.tmp rfl (RVs.tmp rfl (RVs.tmp rfl (RVs.tmp rfl (RVs.nil))))) () rfl trivial (by (try dsimp only); exact InM.out) (fun _ _ => trivial))
    ·
      replace hS := it_b h46 hS
      refine VD.gn rfl rfl rfl rfl (by decide) ?_
      refine VD.gn rfl rfl rfl rfl (by decide) ?_
      refine VD.q rfl (q_pick_f rfl rfl) (by decide) ?_
      refine VD.q rfl (q_move rfl) (by decide) ?_
      refine VD.q rfl (q_assign rfl) (by decide) ?_
      refine VD.q rfl (q_assign rfl) (by decide) ?_
      refine VD.q rfl (q_assign rfl) (by decide) ?_
      refine VD.q rfl (q_assign rfl) (by decide) ?_
      refine VD.to (fun _ _ h => h) ?_
      refine VC.keep [2, 3, 4, 5] rfl ?_
      cases hS
      exact VC.ret (finG (vs := [.bool named2_2, .bool numbered3_3, .bool false, .bool told5_5]) (.inr rfl) rfl (RVs.tmp rfl (RVs.tmp rfl (RVs.tmp rfl (RVs.tmp rfl (RVs.nil))))) () rfl trivial (by (try dsimp only); exact InM.out) (fun _ _ => trivial))

set_option maxHeartbeats 4000000 in
set_option maxRecDepth 100000 in
theorem todo_Text_ct (l_0 : Sv TodoStep) {r : Str} (hS : Sh.todo_Text l_0.l = some r) :
    Ct Tryd.prog 10 [l_0.val] (l_0.ok.and Gl) (Ow.emp) (X := Unit) (fun _ => str r) (fun _ => True) (fun _ => Mo.tt) (fun _ => Ow.emp) := by
  refine Ct.of Tryd.func10 rfl (by kernel_rfl) Tryd.ntmps10 (by simp) fun c => ?_
  unfold Sh.todo_Text at hS
  refine VC.seq ?_
  refine VC.region ?_
  refine VL.q (q_assign rfl) (by decide) ?_
  refine VL.to (fun _ _ h => h) ?_
  refine VC.seq ?_
  refine VC.region ?_
  refine VL.alloc (cs := [.pointer none, .slice none 0 0]) (by kernel_rfl) (by decide) fun b3_1 => ?_
  refine VL.toBd 5 b3_1 ?_
  refine VL.to (fun _ _ h => h) ?_
  refine VC.seq ?_
  refine VC.seq ?_
  refine VC.region ?_
  refine VL.q (q_move rfl) (by decide) ?_
  refine VL.q (q_ln (s := l_0) Tryd.underlying22 rfl) (by decide) ?_
  refine VL.q (q_move rfl) (by decide) ?_
  refine VL.to (fun _ _ h => h) ?_
  refine VC.block ?_
  refine VC.iter (S := Int × Str) (fun sg => (sg.1, sg.2)) (fun sg => [(3, ptr b3_1 0), (6, l_0.val), (7, i64 (l_0.l.length : Int)), (8, i64 sg.1)]) (fun sg => Mo.tt) (fun sg => Ow.star (Bd 83 5 b3_1 sg.2) (Ow.emp)) (0, []) [3, 6, 7, 8] hS rfl ?_
  clear hS
  rintro ⟨x8_2, acc_3⟩ m1 y1 hS hK1
  show VC _ _ _ _ _ [(3, ptr b3_1 0), (6, l_0.val), (7, i64 (l_0.l.length : Int)), (8, i64 x8_2)] (Mo.and Mo.tt _) (Ow.star (Bd 83 5 b3_1 acc_3) (Ow.emp))
  refine VC.seq ?_
  refine VC.region ?_
  refine VL.q (q_lss rfl rfl) (by decide) ?_
  refine VL.to (fun _ _ h => h) ?_
  refine VC.seq ?_
  refine VC.cond_dec rfl (fun h9 => ?_) (fun h9 => ?_)
  ·
    replace hS := it_t h9 hS
    refine VC.skip_to (fun _ _ h => h) ?_
    refine VC.seq ?_
    refine VC.block ?_
    refine VC.seq ?_
    refine VC.region ?_
    obtain ⟨z10_4, nz10_4, hz10_4, hS⟩ := at_s hS
    refine VL.q (q_ixm (s := l_0) Tryd.underlying22 gsz26 rfl rfl nz10_4 (lt_of_get nz10_4 hz10_4)) (by decide) ?_
    refine VL.q (q_els (s := l_0) gagg26 rfl rfl hz10_4) (by decide) ?_
    refine VL.alloc (cs := [str [], i64 0, str []]) (by kernel_rfl) (by decide) fun b5_5 => ?_
    refine VL.store (vc := [str z10_4.verb, i64 z10_4.commit, str z10_4.text]) (cs' := [str z10_4.verb, i64 z10_4.commit, str z10_4.text]) rfl rfl rfl gsz26 rfl rfl (Nat.le_of_ble_eq_true rfl) rfl ?_
    refine VL.to (fun _ _ h => h) ?_
    refine VC.seq ?_
    refine VC.draw [(0, true), (1, true), (2, true), (3, true), (4, true), (5, true), (6, true), (7, false)] mixed (by kernel_rfl) (by kernel_rfl) (by kernel_rfl) ?_
    refine VD.q rfl (q_field gfa26_0 rfl) (by decide) ?_
    refine VD.q rfl (q_fe gone9 rfl rfl) (by decide) ?_
    obtain ⟨b14, hS⟩ := gd_s hS
    obtain ⟨y14_6, ey14_6, hS⟩ := lt_s hS
    refine VD.q rfl (q_catE rfl rfl b14 ey14_6) (by decide) ?_
    refine VD.q rfl (q_field gfa26_1 rfl) (by decide) ?_
    refine VD.q rfl (q_fe gone3 rfl rfl) (by decide) ?_
    obtain ⟨b17, hS⟩ := gd_s hS
    refine VD.q rfl (q_call (itoa_ct z10_4.commit b17) rfl (fun _ _ => rfl)) (by decide) ?_
    obtain ⟨b18, hS⟩ := gd_s hS
    obtain ⟨y18_7, ey18_7, hS⟩ := lt_s hS
    refine VD.q rfl (q_catE rfl rfl b18 ey18_7) (by decide) ?_
    refine VD.one rfl ?_
    obtain ⟨b19, hS⟩ := gd_s hS
    refine VL.callO (writeString_ct b3_1 acc_3 y18_7 b19) rfl (by decide) ?_
    rintro _ _
    obtain ⟨acc19_8, eacc19_8, hS⟩ := lt_s hS
    rw [eacc19_8]
    refine VL.back (D' := []) (by kernel_rfl) (Pend.nil) ?_
    refine VD.to (fun _ _ h => h) ?_
    refine VC.keep [3, 6, 7, 8, 5] rfl ?_
    refine VC.seq ?_
    refine VC.seq ?_
    refine VC.region ?_
    refine VL.q (q_field gfa26_0 rfl) (by decide) ?_
    refine VL.q (q_fe gone9 rfl rfl) (by decide) ?_
    refine VL.q (q_seq rfl rfl) (by decide) ?_
    refine VL.to (fun _ _ h => h) ?_
    refine VC.cond_dec rfl (fun h22 => ?_) (fun h22 => ?_)
    ·
      replace hS := it_t h22 hS
      refine VC.region ?_
      refine VL.q (q_field gfa26_2 rfl) (by decide) ?_
      refine VL.q (q_fe gone9 rfl rfl) (by decide) ?_
      obtain ⟨b25, hS⟩ := gd_s hS
      obtain ⟨y25_9, ey25_9, hS⟩ := lt_s hS
      refine VL.q (q_catE rfl rfl b25 ey25_9) (by decide) ?_
      obtain ⟨b26, hS⟩ := gd_s hS
      refine VL.callO (writeString_ct b3_1 acc19_8 y25_9 b26) rfl (by decide) ?_
      rintro _ _
      obtain ⟨acc26_10, eacc26_10, hS⟩ := lt_s hS
      rw [eacc26_10]
      refine VL.to (fun _ _ h => h) ?_
      refine VC.keep [3, 6, 7, 8] rfl ?_
      refine VC.region ?_
      obtain ⟨b27, hS⟩ := gd_s hS
      refine VL.callO (writeString_ct b3_1 acc26_10 [10] b27) rfl (by decide) ?_
      rintro _ _
      obtain ⟨acc27_11, eacc27_11, hS⟩ := lt_s hS
      rw [eacc27_11]
      refine VL.to (fun _ _ h => h) ?_
      refine VC.region ?_
      obtain ⟨b28, hS⟩ := gd_s hS
      refine VL.q (q_add rfl rfl b28) (by decide) ?_
      refine VL.q (q_move rfl) (by decide) ?_
      refine VL.rnd ((x8_2 + 1), acc27_11) [3, 6, 7, 8] (fun _ _ h => h) (go2 hS hK1) rfl
    ·
      replace hS := it_f h22 hS
      refine VC.skip_to (fun _ _ h => h) ?_
      refine VC.region ?_
      obtain ⟨b27, hS⟩ := gd_s hS
      refine VL.callO (writeString_ct b3_1 acc19_8 [10] b27) rfl (by decide) ?_
      rintro _ _
      obtain ⟨acc27_12, eacc27_12, hS⟩ := lt_s hS
      rw [eacc27_12]
      refine VL.to (fun _ _ h => h) ?_
      refine VC.region ?_
      obtain ⟨b28, hS⟩ := gd_s hS
      refine VL.q (q_add rfl rfl b28) (by decide) ?_
      refine VL.q (q_move rfl) (by decide) ?_
      refine VL.rnd ((x8_2 + 1), acc27_12) [3, 6, 7, 8] (fun _ _ h => h) (go2 hS hK1) rfl
  ·
    replace hS := it_f h9 hS
    replace hS := up2 hS hK1
    refine VC.exit_to (fun _ _ h => h) ?_
    refine VC.seq ?_
    refine VC.region ?_
    refine VL.callO (string_ct b3_1 acc_3) rfl (by decide) ?_
    rintro _ _
    refine VL.q (q_assign rfl) (by decide) ?_
    refine VL.to (fun _ _ h => h) ?_
    cases hS
    exact VC.ret (fin1 (.inr rfl) rfl rfl () rfl trivial (fun _ _ => trivial) (fun _ _ => trivial))

set_option maxHeartbeats 4000000 in
set_option maxRecDepth 100000 in
theorem cmd_Text_ct (c_0 : CmdCmd) {r : Str} (hS : Sh.cmd_Text c_0.pl = some r) :
    Ct Tryd.prog 37 [.agg #[str c_0.verb, str c_0.name, i64 c_0.n, str c_0.text, .bool c_0.force, c_0.todo.val]] (c_0.todo.ok.and Gl) (Ow.emp) (X := Unit) (fun _ => str r) (fun _ => True) (fun _ => Mo.tt) (fun _ => Ow.emp) := by
  refine Ct.of Tryd.func37 rfl (by kernel_rfl) Tryd.ntmps37 (by simp) fun c => ?_
  unfold Sh.cmd_Text at hS
  refine VC.seq ?_
  refine VC.region ?_
  refine VL.box (cs := [str c_0.verb, str c_0.name, i64 c_0.n, str c_0.text, .bool c_0.force, c_0.todo.val]) rfl rfl (by decide) fun b1_1 => ?_
  refine VL.q (q_assign rfl) (by decide) ?_
  refine VL.to (fun _ _ h => h) ?_
  refine VC.seq ?_
  refine VC.region ?_
  refine VL.q (q_fes gagg62 rfl rfl) (by decide) ?_
  obtain ⟨y11_2, ey11_2, hS⟩ := bd_s hS
  refine VL.q (q_call (cmd_has_ct c_0 ey11_2) rfl (fun _ _ => rfl)) (by decide) ?_
  refine VL.q (q_move rfl) (by decide) ?_
  refine VL.q (q_extract rfl rfl) (by decide) ?_
  refine VL.q (q_extract rfl rfl) (by decide) ?_
  refine VL.q (q_extract rfl rfl) (by decide) ?_
  refine VL.q (q_extract rfl rfl) (by decide) ?_
  refine VL.q (q_assign rfl) (by decide) ?_
  refine VL.q (q_assign rfl) (by decide) ?_
  refine VL.q (q_assign rfl) (by decide) ?_
  refine VL.q (q_assign rfl) (by decide) ?_
  refine VL.to (fun _ _ h => h) ?_
  refine VC.keep [1, 3, 4, 5, 6] rfl ?_
  refine VC.seq ?_
  refine VC.region ?_
  refine VL.q (q_field gfa62_0 rfl) (by decide) ?_
  refine VL.q (q_fe gone9 rfl rfl) (by decide) ?_
  refine VL.litO (α := Str) (xs := [.tmp 17]) (vs := [str c_0.verb]) [c_0.verb] Tryd.underlying38 glit9 (by decide) rfl rfl rfl rfl (by decide) (by decide) (fun s18_3 hs18_3 => ?_) (by decide)
  replace hS := lt_to hs18_3 hS
  refine VL.q (q_assign rfl) (by decide) ?_
  refine VL.to (fun _ _ h => h) ?_
  refine VC.cutJ (S := Sv Str) (fun (out7_5 : Sv Str) => out7_5.l) (fun (out7_5 : Sv Str) => [(1, ptr b1_1 0), (4, .bool y11_2.2.1), (5, .bool y11_2.2.2.1), (6, .bool y11_2.2.2.2), (7, out7_5.val)]) (fun (out7_5 : Sv Str) => Mo.tt) (fun (out7_5 : Sv Str) => Ow.star (Blk b1_1 [str c_0.verb, str c_0.name, i64 c_0.n, str c_0.text, .bool c_0.force, c_0.todo.val] 62) (Ow.star (Sv.own out7_5 9) (Ow.emp))) hS ?_ ?_
  · -- up to where ways meet
    clear hS
    intro k6 hS
    refine VC.seq ?_
    refine VC.region ?_
    refine VL.q (q_move rfl) (by decide) ?_
    refine VL.to (fun _ _ h => h) ?_
    refine VC.cond rfl (fun h19 => ?_) (fun h19 => ?_)
    ·
      replace hS := it_t h19 hS
      refine VC.region ?_
      refine VL.q (q_move rfl) (by decide) ?_
      refine VL.q (q_field gfa62_1 rfl) (by decide) ?_
      refine VL.q (q_fe gone9 rfl rfl) (by decide) ?_
      refine VL.lit (α := Str) (xs := [.tmp 22]) (vs := [str c_0.name]) [c_0.name] Tryd.underlying38 glit9 (by decide) rfl rfl rfl rfl (by decide) (fun _ _ _ _ => trivial) (by decide) (fun s23_7 hs23_7 => ?_) (by decide)
      replace hS := lt_to hs23_7 hS
      obtain ⟨b24, hS⟩ := gd_s hS
      refine VL.app (s := s18_3) (r := s23_7) Tryd.underlying38 gapp9 (by decide) rfl Fo.out (ap1 b24) (ap2 b24 (by decide)) (by decide) (fun s24_9 hs24_9 => ?_)
      replace hS := lt_to hs24_9 hS
      refine VL.q (q_assign rfl) (by decide) ?_
      refine VL.mt s24_9 [1, 4, 5, 6, 7] (fun _ _ h => h) hS rfl
    ·
      replace hS := it_b h19 hS
      refine VC.skip_mt s18_3 [1, 4, 5, 6, 7] (fun _ _ h => h) hS rfl
  · -- from there
    clear hS
    rintro out7_5 hS
    show VC _ _ _ _ _ [(1, ptr b1_1 0), (4, .bool y11_2.2.1), (5, .bool y11_2.2.2.1), (6, .bool y11_2.2.2.2), (7, out7_5.val)] (Mo.and Mo.tt _) (Ow.star (Blk b1_1 [str c_0.verb, str c_0.name, i64 c_0.n, str c_0.text, .bool c_0.force, c_0.todo.val] 62) (Ow.star (Sv.own out7_5 9) (Ow.emp)))
    refine VC.cutJ (S := Sv Str) (fun (out7_11 : Sv Str) => out7_11.l) (fun (out7_11 : Sv Str) => [(1, ptr b1_1 0), (5, .bool y11_2.2.2.1), (6, .bool y11_2.2.2.2), (7, out7_11.val)]) (fun (out7_11 : Sv Str) => Mo.tt) (fun (out7_11 : Sv Str) => Ow.star (Blk b1_1 [str c_0.verb, str c_0.name, i64 c_0.n, str c_0.text, .bool c_0.force, c_0.todo.val] 62) (Ow.star (Sv.own out7_11 9) (Ow.emp))) hS ?_ ?_
    · -- up to where ways meet
      clear hS
      intro k12 hS
      refine VC.seq ?_
      refine VC.region ?_
      refine VL.q (q_move rfl) (by decide) ?_
      refine VL.to (fun _ _ h => h) ?_
      refine VC.cond rfl (fun h25 => ?_) (fun h25 => ?_)
      ·
        replace hS := it_t h25 hS
        refine VC.region ?_
        refine VL.q (q_move rfl) (by decide) ?_
        refine VL.q (q_field gfa62_2 rfl) (by decide) ?_
        refine VL.q (q_fe gone3 rfl rfl) (by decide) ?_
        obtain ⟨b29, hS⟩ := gd_s hS
        refine VL.q (q_call (itoa_ct c_0.n b29) rfl (fun _ _ => rfl)) (by decide) ?_
        refine VL.lit (α := Str) (xs := [.tmp 29]) (vs := [str (itoaS c_0.n)]) [(itoaS c_0.n)] Tryd.underlying38 glit9 (by decide) rfl rfl rfl rfl (by decide) (fun _ _ _ _ => trivial) (by decide) (fun s30_13 hs30_13 => ?_) (by decide)
        replace hS := lt_to hs30_13 hS
        obtain ⟨b31, hS⟩ := gd_s hS
        refine VL.app (s := out7_5) (r := s30_13) Tryd.underlying38 gapp9 (by decide) rfl Fo.out (ap1 b31) (ap2 b31 (by decide)) (by decide) (fun s31_15 hs31_15 => ?_)
        replace hS := lt_to hs31_15 hS
        refine VL.q (q_assign rfl) (by decide) ?_
        refine VL.mt s31_15 [1, 5, 6, 7] (fun _ _ h => h) hS rfl
      ·
        replace hS := it_b h25 hS
        refine VC.skip_mt out7_5 [1, 5, 6, 7] (fun _ _ h => h) hS rfl
    · -- from there
      clear hS
      rintro out7_11 hS
      show VC _ _ _ _ _ [(1, ptr b1_1 0), (5, .bool y11_2.2.2.1), (6, .bool y11_2.2.2.2), (7, out7_11.val)] (Mo.and Mo.tt _) (Ow.star (Blk b1_1 [str c_0.verb, str c_0.name, i64 c_0.n, str c_0.text, .bool c_0.force, c_0.todo.val] 62) (Ow.star (Sv.own out7_11 9) (Ow.emp)))
      refine VC.cutJ (S := Sv Str) (fun (out7_17 : Sv Str) => out7_17.l) (fun (out7_17 : Sv Str) => [(1, ptr b1_1 0), (6, .bool y11_2.2.2.2), (7, out7_17.val)]) (fun (out7_17 : Sv Str) => Mo.tt) (fun (out7_17 : Sv Str) => Ow.star (Blk b1_1 [str c_0.verb, str c_0.name, i64 c_0.n, str c_0.text, .bool c_0.force, c_0.todo.val] 62) (Ow.star (Sv.own out7_17 9) (Ow.emp))) hS ?_ ?_
      · -- up to where ways meet
        clear hS
        intro k18 hS
        refine VC.seq ?_
        refine VC.region ?_
        refine VL.q (q_move rfl) (by decide) ?_
        refine VL.to (fun _ _ h => h) ?_
        refine VC.cond rfl (fun h32 => ?_) (fun h32 => ?_)
        ·
          replace hS := it_t h32 hS
          refine VC.region ?_
          refine VL.q (q_move rfl) (by decide) ?_
          refine VL.lit (α := Str) (xs := [.const (str [45, 102])]) (vs := [str [45, 102]]) [[45, 102]] Tryd.underlying38 glit9 (by decide) rfl rfl rfl rfl (by decide) (fun _ _ _ _ => trivial) (by decide) (fun s34_19 hs34_19 => ?_) (by decide)
          replace hS := lt_to hs34_19 hS
          obtain ⟨b35, hS⟩ := gd_s hS
          refine VL.app (s := out7_11) (r := s34_19) Tryd.underlying38 gapp9 (by decide) rfl Fo.out (ap1 b35) (ap2 b35 (by decide)) (by decide) (fun s35_21 hs35_21 => ?_)
          replace hS := lt_to hs35_21 hS
          refine VL.q (q_assign rfl) (by decide) ?_
          refine VL.mt s35_21 [1, 6, 7] (fun _ _ h => h) hS rfl
        ·
          replace hS := it_b h32 hS
          refine VC.skip_mt out7_11 [1, 6, 7] (fun _ _ h => h) hS rfl
      · -- from there
        clear hS
        rintro out7_17 hS
        show VC _ _ _ _ _ [(1, ptr b1_1 0), (6, .bool y11_2.2.2.2), (7, out7_17.val)] (Mo.and Mo.tt _) (Ow.star (Blk b1_1 [str c_0.verb, str c_0.name, i64 c_0.n, str c_0.text, .bool c_0.force, c_0.todo.val] 62) (Ow.star (Sv.own out7_17 9) (Ow.emp)))
        refine VC.cutJ (S := Sv Str) (fun (out7_23 : Sv Str) => out7_23.l) (fun (out7_23 : Sv Str) => [(1, ptr b1_1 0), (7, out7_23.val)]) (fun (out7_23 : Sv Str) => Mo.tt) (fun (out7_23 : Sv Str) => Ow.star (Blk b1_1 [str c_0.verb, str c_0.name, i64 c_0.n, str c_0.text, .bool c_0.force, c_0.todo.val] 62) (Ow.star (Sv.own out7_23 9) (Ow.emp))) hS ?_ ?_
        · -- up to where ways meet
          clear hS
          intro k24 hS
          refine VC.seq ?_
          refine VC.region ?_
          refine VL.q (q_move rfl) (by decide) ?_
          refine VL.to (fun _ _ h => h) ?_
          refine VC.cond rfl (fun h36 => ?_) (fun h36 => ?_)
          ·
            replace hS := it_t h36 hS
            refine VC.region ?_
            refine VL.q (q_move rfl) (by decide) ?_
            refine VL.q (q_field gfa62_3 rfl) (by decide) ?_
            refine VL.q (q_fe gone9 rfl rfl) (by decide) ?_
            refine VL.lit (α := Str) (xs := [.tmp 39]) (vs := [str c_0.text]) [c_0.text] Tryd.underlying38 glit9 (by decide) rfl rfl rfl rfl (by decide) (fun _ _ _ _ => trivial) (by decide) (fun s40_25 hs40_25 => ?_) (by decide)
            replace hS := lt_to hs40_25 hS
            obtain ⟨b41, hS⟩ := gd_s hS
            refine VL.app (s := out7_17) (r := s40_25) Tryd.underlying38 gapp9 (by decide) rfl Fo.out (ap1 b41) (ap2 b41 (by decide)) (by decide) (fun s41_27 hs41_27 => ?_)
            replace hS := lt_to hs41_27 hS
            refine VL.q (q_assign rfl) (by decide) ?_
            refine VL.mt s41_27 [1, 7] (fun _ _ h => h) hS rfl
          ·
            replace hS := it_b h36 hS
            refine VC.skip_mt out7_17 [1, 7] (fun _ _ h => h) hS rfl
        · -- from there
          clear hS
          rintro out7_23 hS
          show VC _ _ _ _ _ [(1, ptr b1_1 0), (7, out7_23.val)] (Mo.and Mo.tt _) (Ow.star (Blk b1_1 [str c_0.verb, str c_0.name, i64 c_0.n, str c_0.text, .bool c_0.force, c_0.todo.val] 62) (Ow.star (Sv.own out7_23 9) (Ow.emp)))
          refine VC.seq ?_
          refine VC.region ?_
          refine VL.q (q_move rfl) (by decide) ?_
          obtain ⟨b43, hS⟩ := gd_s hS
          obtain ⟨y43_29, ey43_29, hS⟩ := lt_s hS
          refine VL.q (q_callR (join_ct out7_23 [32] b43) rfl (fun _ _ => congrArg str ey43_29)) (by decide) ?_
          refine VL.q (q_assign rfl) (by decide) ?_
          refine VL.to (fun _ _ h => h) ?_
          refine VC.seq ?_
          refine VC.seq ?_
          refine VC.region ?_
          refine VL.q (q_field gfa62_0 rfl) (by decide) ?_
          refine VL.q (q_fe gone9 rfl rfl) (by decide) ?_
          refine VL.q (q_seq rfl rfl) (by decide) ?_
          refine VL.to (fun _ _ h => h) ?_
          refine VC.cond_dec rfl (fun h46 => ?_) (fun h46 => ?_)
          ·
            replace hS := it_t h46 hS
            refine VC.region ?_
            refine VL.q (q_move rfl) (by decide) ?_
            refine VL.q (q_field gfa62_5 rfl) (by decide) ?_
            refine VL.q (q_fe gone22 rfl rfl) (by decide) ?_
            obtain ⟨y50_30, ey50_30, hS⟩ := bd_s hS
            refine VL.q (q_call (todo_Text_ct c_0.todo ey50_30) rfl (fun _ _ => rfl)) (by decide) ?_
            obtain ⟨b51, hS⟩ := gd_s hS
            obtain ⟨y51_31, ey51_31, hS⟩ := lt_s hS
            refine VL.q (q_catE rfl rfl b51 ey51_31) (by decide) ?_
            obtain ⟨b52, hS⟩ := gd_s hS
            obtain ⟨y52_32, ey52_32, hS⟩ := lt_s hS
            refine VL.q (q_catE rfl rfl b52 ey52_32) (by decide) ?_
            refine VL.q (q_assign rfl) (by decide) ?_
            refine VL.to (fun _ _ h => h) ?_
            refine VC.keep [8] rfl ?_
            refine VC.seq ?_
            refine VC.region ?_
            refine VL.q (q_move rfl) (by decide) ?_
            refine VL.q (q_assign rfl) (by decide) ?_
            refine VL.to (fun _ _ h => h) ?_
            cases hS
            exact VC.ret (fin1 (.inr rfl) rfl rfl () rfl trivial (fun _ _ => trivial) (fun _ _ => trivial))
          ·
            replace hS := it_f h46 hS
            refine VC.skip_to (fun _ _ h => h) ?_
            refine VC.seq ?_
            refine VC.region ?_
            refine VL.q (q_move rfl) (by decide) ?_
            refine VL.q (q_assign rfl) (by decide) ?_
            refine VL.to (fun _ _ h => h) ?_
            cases hS
            exact VC.ret (fin1 (.inr rfl) rfl rfl () rfl trivial (fun _ _ => trivial) (fun _ _ => trivial))

set_option maxHeartbeats 4000000 in
set_option maxRecDepth 100000 in
theorem slices_Equal_todo_Step_todo_Step_ct (s1_0 : Sv TodoStep) (s2_1 : Sv TodoStep) {r : Bool} (hS : Sh.slices_Equal_todo_Step_todo_Step s1_0.l s2_1.l = some r) :
    Ct Tryd.prog 69 [s1_0.val, s2_1.val] (s1_0.ok.and s2_1.ok) (Ow.emp) (X := Unit) (fun _ => .bool r) (fun _ => True) (fun _ => Mo.tt) (fun _ => Ow.emp) := by
  refine Ct.of Tryd.func69 rfl (by kernel_rfl) Tryd.ntmps69 (by simp) fun c => ?_
  unfold Sh.slices_Equal_todo_Step_todo_Step at hS
  refine VC.seq ?_
  refine VC.region ?_
  refine VL.q (q_assign rfl) (by decide) ?_
  refine VL.to (fun _ _ h => h) ?_
  refine VC.seq ?_
  refine VC.seq ?_
  refine VC.region ?_
  refine VL.q (q_move rfl) (by decide) ?_
  refine VL.q (q_ln (s := s1_0) Tryd.underlying22 rfl) (by decide) ?_
  refine VL.q (q_move rfl) (by decide) ?_
  refine VL.q (q_ln (s := s2_1) Tryd.underlying22 rfl) (by decide) ?_
  refine VL.q (q_neq rfl rfl) (by decide) ?_
  refine VL.to (fun _ _ h => h) ?_
  refine VC.cond_ndec rfl (fun h10 => ?_) (fun h10 => ?_)
  ·
    replace hS := it_f h10 hS
    refine VC.seq ?_
    refine VC.region ?_
    refine VL.q (q_assign rfl) (by decide) ?_
    refine VL.to (fun _ _ h => h) ?_
    cases hS
    exact VC.ret (fin1 (.inr rfl) rfl rfl () rfl trivial (fun _ _ => trivial) (fun _ _ => trivial))
  ·
    replace hS := it_t h10 hS
    refine VC.skip_to (fun _ _ h => h) ?_
    refine VC.seq ?_
    refine VC.seq ?_
    refine VC.region ?_
    refine VL.q (q_move rfl) (by decide) ?_
    refine VL.q (q_ln (s := s1_0) Tryd.underlying22 rfl) (by decide) ?_
    refine VL.q (q_move rfl) (by decide) ?_
    refine VL.to (fun _ _ h => h) ?_
    refine VC.keep [0, 1, 12, 13] rfl ?_
    refine VC.block ?_
    refine VC.iter (S := Int) (fun (x13_1 : Int) => x13_1) (fun (x13_1 : Int) => [(0, s1_0.val), (1, s2_1.val), (12, i64 (s1_0.l.length : Int)), (13, i64 x13_1)]) (fun (x13_1 : Int) => Mo.tt) (fun (x13_1 : Int) => Ow.emp) 0 [0, 1, 12, 13] hS rfl ?_
    clear hS
    rintro x13_1 m1 y1 hS hK1
    show VC _ _ _ _ _ [(0, s1_0.val), (1, s2_1.val), (12, i64 (s1_0.l.length : Int)), (13, i64 x13_1)] (Mo.and Mo.tt _) (Ow.emp)
    refine VC.seq ?_
    refine VC.region ?_
    refine VL.q (q_lss rfl rfl) (by decide) ?_
    refine VL.to (fun _ _ h => h) ?_
    refine VC.seq ?_
    refine VC.cond_dec rfl (fun h14 => ?_) (fun h14 => ?_)
    ·
      replace hS := it_t h14 hS
      refine VC.skip_to (fun _ _ h => h) ?_
      refine VC.seq ?_
      refine VC.block ?_
      refine VC.seq ?_
      refine VC.region ?_
      refine VL.q (q_move rfl) (by decide) ?_
      refine VL.q (q_assign rfl) (by decide) ?_
      refine VL.to (fun _ _ h => h) ?_
      refine VC.seq ?_
      refine VC.draw ((List.range 9).map fun k => (k, true)) mixed (by kernel_rfl) (by kernel_rfl) (by kernel_rfl) ?_
      refine VD.q rfl (q_move rfl) (by decide) ?_
      refine VD.q rfl (q_move rfl) (by decide) ?_
      obtain ⟨z18_2, nz18_2, hz18_2, hS⟩ := at_s hS
      refine VD.q rfl (q_ixm (s := s1_0) Tryd.underlying22 gsz26 rfl rfl nz18_2 (lt_of_get nz18_2 hz18_2)) (by decide) ?_
      refine VD.q rfl (q_els (s := s1_0) gagg26 rfl rfl hz18_2) (by decide) ?_
      refine VD.q rfl (q_move rfl) (by decide) ?_
      refine VD.q rfl (q_move rfl) (by decide) ?_
      obtain ⟨z22_3, nz22_3, hz22_3, hS⟩ := at_s hS
      refine VD.q rfl (q_ixm (s := s2_1) Tryd.underlying22 gsz26 rfl rfl nz22_3 (lt_of_get nz22_3 hz22_3)) (by decide) ?_
      refine VD.q rfl (q_els (s := s2_1) gagg26 rfl rfl hz22_3) (by decide) ?_
      refine VD.q rfl (q_stneq geqg26 (geqs26 z18_2.verb z18_2.commit z18_2.text z22_3.verb z22_3.commit z22_3.text) rfl rfl) (by decide) ?_
      refine VD.to (fun _ _ h => h) ?_
      refine VC.keep [0, 1, 12, 13, 24] rfl ?_
      refine VC.cond_ndec rfl (fun h24 => ?_) (fun h24 => ?_)
      ·
        replace hS := it_f h24 hS
        refine VC.seq ?_
        refine VC.region ?_
        refine VL.q (q_assign rfl) (by decide) ?_
        refine VL.to (fun _ _ h => h) ?_
        replace hS := up2 hS hK1
        cases hS
        exact VC.ret (fin1 (.inr rfl) rfl rfl () rfl trivial (fun _ _ => trivial) (fun _ _ => trivial))
      ·
        replace hS := it_t h24 hS
        refine VC.skip_to (fun _ _ h => h) ?_
        refine VC.region ?_
        obtain ⟨b25, hS⟩ := gd_s hS
        refine VL.q (q_add rfl rfl b25) (by decide) ?_
        refine VL.q (q_move rfl) (by decide) ?_
        refine VL.rnd (x13_1 + 1) [0, 1, 12, 13] (fun _ _ h => h) (go2 hS hK1) rfl
    ·
      replace hS := it_f h14 hS
      replace hS := up2 hS hK1
      refine VC.exit_to (fun _ _ h => h) ?_
      refine VC.seq ?_
      refine VC.region ?_
      refine VL.q (q_assign rfl) (by decide) ?_
      refine VL.to (fun _ _ h => h) ?_
      cases hS
      exact VC.ret (fin1 (.inr rfl) rfl rfl () rfl trivial (fun _ _ => trivial) (fun _ _ => trivial))

set_option maxHeartbeats 4000000 in
set_option maxRecDepth 100000 in
theorem cmd_Same_ct (a_0 : CmdCmd) (b_1 : CmdCmd) {r : Bool} (hS : Sh.cmd_Same a_0.pl b_1.pl = some r) :
    Ct Tryd.prog 32 [.agg #[str a_0.verb, str a_0.name, i64 a_0.n, str a_0.text, .bool a_0.force, a_0.todo.val], .agg #[str b_1.verb, str b_1.name, i64 b_1.n, str b_1.text, .bool b_1.force, b_1.todo.val]] (a_0.todo.ok.and b_1.todo.ok) (Ow.emp) (X := Unit) (fun _ => .bool r) (fun _ => True) (fun _ => Mo.tt) (fun _ => Ow.emp) := by
  refine Ct.of Tryd.func32 rfl (by kernel_rfl) Tryd.ntmps32 (by simp) fun c => ?_
  unfold Sh.cmd_Same at hS
  refine VC.seq ?_
  refine VC.region ?_
  refine VL.box (cs := [str a_0.verb, str a_0.name, i64 a_0.n, str a_0.text, .bool a_0.force, a_0.todo.val]) rfl rfl (by decide) fun b2_1 => ?_
  refine VL.box (cs := [str b_1.verb, str b_1.name, i64 b_1.n, str b_1.text, .bool b_1.force, b_1.todo.val]) rfl rfl (by decide) fun b3_2 => ?_
  refine VL.q (q_assign rfl) (by decide) ?_
  refine VL.to (fun _ _ h => h) ?_
  refine VC.seq ?_
  refine VC.region ?_
  refine VL.q (q_field gfa62_0 rfl) (by decide) ?_
  refine VL.q (q_fe gone9 rfl rfl) (by decide) ?_
  refine VL.q (q_field gfa62_0 rfl) (by decide) ?_
  refine VL.q (q_fe gone9 rfl rfl) (by decide) ?_
  refine VL.q (q_seq rfl rfl) (by decide) ?_
  refine VL.q (q_move rfl) (by decide) ?_
  refine VL.split_dec 10 rfl (fun h10 => ?_) (fun h10 => ?_)
  ·
    replace hS := it_t h10 hS
    refine VL.gy rfl rfl (q_field gfa62_1 rfl) (by decide) ?_
    refine VL.gy rfl rfl (q_fe gone9 rfl rfl) (by decide) ?_
    refine VL.gy rfl rfl (q_field gfa62_1 rfl) (by decide) ?_
    refine VL.gy rfl rfl (q_fe gone9 rfl rfl) (by decide) ?_
    refine VL.gy rfl rfl (q_seq rfl rfl) (by decide) ?_
    refine VL.q (q_pick_t rfl rfl) (by decide) ?_
    refine VL.q (q_move rfl) (by decide) ?_
    refine VL.split_dec 17 rfl (fun h17 => ?_) (fun h17 => ?_)
    ·
      replace hS := it_t h17 hS
      refine VL.gy rfl rfl (q_field gfa62_2 rfl) (by decide) ?_
      refine VL.gy rfl rfl (q_fe gone3 rfl rfl) (by decide) ?_
      refine VL.gy rfl rfl (q_field gfa62_2 rfl) (by decide) ?_
      refine VL.gy rfl rfl (q_fe gone3 rfl rfl) (by decide) ?_
      refine VL.gy rfl rfl (q_eql rfl rfl) (by decide) ?_
      refine VL.q (q_pick_t rfl rfl) (by decide) ?_
      refine VL.q (q_move rfl) (by decide) ?_
      refine VL.split_dec 24 rfl (fun h24 => ?_) (fun h24 => ?_)
      ·
        replace hS := it_t h24 hS
        refine VL.gy rfl rfl (q_field gfa62_3 rfl) (by decide) ?_
        refine VL.gy rfl rfl (q_fe gone9 rfl rfl) (by decide) ?_
        refine VL.gy rfl rfl (q_field gfa62_3 rfl) (by decide) ?_
        refine VL.gy rfl rfl (q_fe gone9 rfl rfl) (by decide) ?_
        refine VL.gy rfl rfl (q_seq rfl rfl) (by decide) ?_
        refine VL.q (q_pick_t rfl rfl) (by decide) ?_
        refine VL.q (q_move rfl) (by decide) ?_
        refine VL.split_dec 31 rfl (fun h31 => ?_) (fun h31 => ?_)
        ·
          replace hS := it_t h31 hS
          refine VL.gy rfl rfl (q_field gfa62_4 rfl) (by decide) ?_
          refine VL.gy rfl rfl (q_fe gone4 rfl rfl) (by decide) ?_
          refine VL.gy rfl rfl (q_field gfa62_4 rfl) (by decide) ?_
          refine VL.gy rfl rfl (q_fe gone4 rfl rfl) (by decide) ?_
          refine VL.gy rfl rfl (q_beql Tryd.underlying4 rfl rfl) (by decide) ?_
          refine VL.q (q_pick_t rfl rfl) (by decide) ?_
          refine VL.q (q_move rfl) (by decide) ?_
          refine VL.split_dec 38 rfl (fun h38 => ?_) (fun h38 => ?_)
          ·
            replace hS := it_t h38 hS
            refine VL.gy rfl rfl (q_field gfa62_5 rfl) (by decide) ?_
            refine VL.gy rfl rfl (q_fe gone22 rfl rfl) (by decide) ?_
            refine VL.gy rfl rfl (q_field gfa62_5 rfl) (by decide) ?_
            refine VL.gy rfl rfl (q_fe gone22 rfl rfl) (by decide) ?_
            obtain ⟨y43_3, ey43_3, hS⟩ := bd_s hS
            refine VL.gy rfl rfl (q_call (slices_Equal_todo_Step_todo_Step_ct a_0.todo b_1.todo ey43_3) rfl (fun _ _ => rfl)) (by decide) ?_
            refine VL.q (q_pick_t rfl rfl) (by decide) ?_
            refine VL.q (q_assign rfl) (by decide) ?_
            refine VL.to (fun _ _ h => h) ?_
            refine VC.keep [4] rfl ?_
            cases hS
            exact VC.ret (fin1 (.inr rfl) rfl rfl () rfl trivial (fun _ _ => trivial) (fun _ _ => trivial))
          ·
            replace hS := it_f h38 hS
            refine VL.gn rfl rfl rfl (by decide) ?_
            refine VL.gn rfl rfl rfl (by decide) ?_
            refine VL.gn rfl rfl rfl (by decide) ?_
            refine VL.gn rfl rfl rfl (by decide) ?_
            refine VL.gn rfl rfl rfl (by decide) ?_
            refine VL.q (q_pick_f rfl rfl) (by decide) ?_
            refine VL.q (q_assign rfl) (by decide) ?_
            refine VL.to (fun _ _ h => h) ?_
            refine VC.keep [4] rfl ?_
            cases hS
            exact VC.ret (fin1 (.inr rfl) rfl rfl () rfl trivial (fun _ _ => trivial) (fun _ _ => trivial))
        ·
          replace hS := it_f h31 hS
          refine VL.gn rfl rfl rfl (by decide) ?_
          refine VL.gn rfl rfl rfl (by decide) ?_
          refine VL.gn rfl rfl rfl (by decide) ?_
          refine VL.gn rfl rfl rfl (by decide) ?_
          refine VL.gn rfl rfl rfl (by decide) ?_
          refine VL.q (q_pick_f rfl rfl) (by decide) ?_
          refine VL.q (q_move rfl) (by decide) ?_
          refine VL.gn rfl rfl rfl (by decide) ?_
          refine VL.gn rfl rfl rfl (by decide) ?_
          refine VL.gn rfl rfl rfl (by decide) ?_
          refine VL.gn rfl rfl rfl (by decide) ?_
          refine VL.gn rfl rfl rfl (by decide) ?_
          refine VL.q (q_pick_f rfl rfl) (by decide) ?_
          refine VL.q (q_assign rfl) (by decide) ?_
          refine VL.to (fun _ _ h => h) ?_
          refine VC.keep [4] rfl ?_
          cases hS
          exact VC.ret (fin1 (.inr rfl) rfl rfl () rfl trivial (fun _ _ => trivial) (fun _ _ => trivial))
      ·
        replace hS := it_f h24 hS
        refine VL.gn rfl rfl rfl (by decide) ?_
        refine VL.gn rfl rfl rfl (by decide) ?_
        refine VL.gn rfl rfl rfl (by decide) ?_
        refine VL.gn rfl rfl rfl (by decide) ?_
        refine VL.gn rfl rfl rfl (by decide) ?_
        refine VL.q (q_pick_f rfl rfl) (by decide) ?_
        refine VL.q (q_move rfl) (by decide) ?_
        refine VL.gn rfl rfl rfl (by decide) ?_
        refine VL.gn rfl rfl rfl (by decide) ?_
        refine VL.gn rfl rfl rfl (by decide) ?_
        refine VL.gn rfl rfl rfl (by decide) ?_
        refine VL.gn rfl rfl rfl (by decide) ?_
        refine VL.q (q_pick_f rfl rfl) (by decide) ?_
        refine VL.q (q_move rfl) (by decide) ?_
        refine VL.gn rfl rfl rfl (by decide) ?_
        refine VL.gn rfl rfl rfl (by decide) ?_
        refine VL.gn rfl rfl rfl (by decide) ?_
        refine VL.gn rfl rfl rfl (by decide) ?_
        refine VL.gn rfl rfl rfl (by decide) ?_
        refine VL.q (q_pick_f rfl rfl) (by decide) ?_
        refine VL.q (q_assign rfl) (by decide) ?_
        refine VL.to (fun _ _ h => h) ?_
        refine VC.keep [4] rfl ?_
        cases hS
        exact VC.ret (fin1 (.inr rfl) rfl rfl () rfl trivial (fun _ _ => trivial) (fun _ _ => trivial))
    ·
      replace hS := it_f h17 hS
      refine VL.gn rfl rfl rfl (by decide) ?_
      refine VL.gn rfl rfl rfl (by decide) ?_
      refine VL.gn rfl rfl rfl (by decide) ?_
      refine VL.gn rfl rfl rfl (by decide) ?_
      refine VL.gn rfl rfl rfl (by decide) ?_
      refine VL.q (q_pick_f rfl rfl) (by decide) ?_
      refine VL.q (q_move rfl) (by decide) ?_
      refine VL.gn rfl rfl rfl (by decide) ?_
      refine VL.gn rfl rfl rfl (by decide) ?_
      refine VL.gn rfl rfl rfl (by decide) ?_
      refine VL.gn rfl rfl rfl (by decide) ?_
      refine VL.gn rfl rfl rfl (by decide) ?_
      refine VL.q (q_pick_f rfl rfl) (by decide) ?_
      refine VL.q (q_move rfl) (by decide) ?_
      refine VL.gn rfl rfl rfl (by decide) ?_
      refine VL.gn rfl rfl rfl (by decide) ?_
      refine VL.gn rfl rfl rfl (by decide) ?_
      refine VL.gn rfl rfl rfl (by decide) ?_
      refine VL.gn rfl rfl rfl (by decide) ?_
      refine VL.q (q_pick_f rfl rfl) (by decide) ?_
      refine VL.q (q_move rfl) (by decide) ?_
      refine VL.gn rfl rfl rfl (by decide) ?_
      refine VL.gn rfl rfl rfl (by decide) ?_
      refine VL.gn rfl rfl rfl (by decide) ?_
      refine VL.gn rfl rfl rfl (by decide) ?_
      refine VL.gn rfl rfl rfl (by decide) ?_
      refine VL.q (q_pick_f rfl rfl) (by decide) ?_
      refine VL.q (q_assign rfl) (by decide) ?_
      refine VL.to (fun _ _ h => h) ?_
      refine VC.keep [4] rfl ?_
      cases hS
      exact VC.ret (fin1 (.inr rfl) rfl rfl () rfl trivial (fun _ _ => trivial) (fun _ _ => trivial))
  ·
    replace hS := it_f h10 hS
    refine VL.gn rfl rfl rfl (by decide) ?_
    refine VL.gn rfl rfl rfl (by decide) ?_
    refine VL.gn rfl rfl rfl (by decide) ?_
    refine VL.gn rfl rfl rfl (by decide) ?_
    refine VL.gn rfl rfl rfl (by decide) ?_
    refine VL.q (q_pick_f rfl rfl) (by decide) ?_
    refine VL.q (q_move rfl) (by decide) ?_
    refine VL.gn rfl rfl rfl (by decide) ?_
    refine VL.gn rfl rfl rfl (by decide) ?_
    refine VL.gn rfl rfl rfl (by decide) ?_
    refine VL.gn rfl rfl rfl (by decide) ?_
    refine VL.gn rfl rfl rfl (by decide) ?_
    refine VL.q (q_pick_f rfl rfl) (by decide) ?_
    refine VL.q (q_move rfl) (by decide) ?_
    refine VL.gn rfl rfl rfl (by decide) ?_
    refine VL.gn rfl rfl rfl (by decide) ?_
    refine VL.gn rfl rfl rfl (by decide) ?_
    refine VL.gn rfl rfl rfl (by decide) ?_
    refine VL.gn rfl rfl rfl (by decide) ?_
    refine VL.q (q_pick_f rfl rfl) (by decide) ?_
    refine VL.q (q_move rfl) (by decide) ?_
    refine VL.gn rfl rfl rfl (by decide) ?_
    refine VL.gn rfl rfl rfl (by decide) ?_
    refine VL.gn rfl rfl rfl (by decide) ?_
    refine VL.gn rfl rfl rfl (by decide) ?_
    refine VL.gn rfl rfl rfl (by decide) ?_
    refine VL.q (q_pick_f rfl rfl) (by decide) ?_
    refine VL.q (q_move rfl) (by decide) ?_
    refine VL.gn rfl rfl rfl (by decide) ?_
    refine VL.gn rfl rfl rfl (by decide) ?_
    refine VL.gn rfl rfl rfl (by decide) ?_
    refine VL.gn rfl rfl rfl (by decide) ?_
    refine VL.gn rfl rfl rfl (by decide) ?_
    refine VL.q (q_pick_f rfl rfl) (by decide) ?_
    refine VL.q (q_assign rfl) (by decide) ?_
    refine VL.to (fun _ _ h => h) ?_
    refine VC.keep [4] rfl ?_
    cases hS
    exact VC.ret (fin1 (.inr rfl) rfl rfl () rfl trivial (fun _ _ => trivial) (fun _ _ => trivial))

set_option maxHeartbeats 4000000 in
set_option maxRecDepth 100000 in
theorem rectolaw22_known_ct  {r : Bool} (hS : Sh.rectolaw22_known = some r) :
    Ct Tryd.prog 30 [] Gl (Ow.emp) (X := Unit) (fun _ => .bool r) (fun _ => True) (fun _ => Mo.tt) (fun _ => Ow.emp) := by
  refine Ct.of Tryd.func30 rfl (by kernel_rfl) Tryd.ntmps30 (by simp) fun c => ?_
  unfold Sh.rectolaw22_known at hS
  refine VC.seq ?_
  refine VC.region ?_
  refine VL.q (q_assign rfl) (by decide) ?_
  refine VL.to (fun _ _ h => h) ?_
  refine VC.seq ?_
  refine VC.region ?_
  obtain ⟨y11_1, ey11_1, hS⟩ := bd_s hS
  refine VL.callF (cmd_Parse_ct [114, 101, 115, 101, 116, 32, 104, 97, 114, 100, 32, 51] ey11_1) rfl (by decide) ?_
  rintro ⟨q11_1_0, q11_1_1⟩ rfl
  try dsimp only
  refine VL.q (q_move rfl) (by decide) ?_
  refine VL.q (q_extract rfl rfl) (by decide) ?_
  refine VL.q (q_extract rfl rfl) (by decide) ?_
  refine VL.alloc (cs := [str [], str [], i64 0, str [], .bool false, .slice none 0 0]) (by kernel_rfl) (by decide) fun b1_2 => ?_
  refine VL.store (vc := [str q11_1_0.verb, str q11_1_0.name, i64 q11_1_0.n, str q11_1_0.text, .bool q11_1_0.force, q11_1_0.todo.val]) (cs' := [str q11_1_0.verb, str q11_1_0.name, i64 q11_1_0.n, str q11_1_0.text, .bool q11_1_0.force, q11_1_0.todo.val]) rfl rfl rfl gsz62 rfl rfl (Nat.le_of_ble_eq_true rfl) rfl ?_
  refine VL.q (q_assign rfl) (by decide) ?_
  refine VL.to (fun _ _ h => h) ?_
  refine VC.seq ?_
  refine VC.region ?_
  obtain ⟨y15_3, ey15_3, hS⟩ := bd_s hS
  refine VL.callF (cmd_Parse_ct [114, 101, 98, 97, 115, 101, 32, 50, 10, 112, 105, 99, 107, 32, 51, 10] ey15_3) rfl (by decide) ?_
  rintro ⟨q15_3_0, q15_3_1⟩ rfl
  try dsimp only
  refine VL.q (q_move rfl) (by decide) ?_
  refine VL.q (q_extract rfl rfl) (by decide) ?_
  refine VL.q (q_extract rfl rfl) (by decide) ?_
  refine VL.alloc (cs := [str [], str [], i64 0, str [], .bool false, .slice none 0 0]) (by kernel_rfl) (by decide) fun b3_4 => ?_
  refine VL.store (vc := [str q15_3_0.verb, str q15_3_0.name, i64 q15_3_0.n, str q15_3_0.text, .bool q15_3_0.force, q15_3_0.todo.val]) (cs' := [str q15_3_0.verb, str q15_3_0.name, i64 q15_3_0.n, str q15_3_0.text, .bool q15_3_0.force, q15_3_0.todo.val]) rfl rfl rfl gsz62 rfl rfl (Nat.le_of_ble_eq_true rfl) rfl ?_
  refine VL.q (q_assign rfl) (by decide) ?_
  refine VL.to (fun _ _ h => h) ?_
  refine VC.keep [1, 2, 3, 4] rfl ?_
  refine VC.seq ?_
  refine VC.region ?_
  obtain ⟨y19_5, ey19_5, hS⟩ := bd_s hS
  refine VL.callF (cmd_Parse_ct [106, 117, 109, 112] ey19_5) rfl (by decide) ?_
  rintro ⟨q19_5_0, q19_5_1⟩ rfl
  try dsimp only
  refine VL.q (q_move rfl) (by decide) ?_
  refine VL.q (q_extract rfl rfl) (by decide) ?_
  refine VL.q (q_extract rfl rfl) (by decide) ?_
  refine VL.alloc (cs := [str [], str [], i64 0, str [], .bool false, .slice none 0 0]) (by kernel_rfl) (by decide) fun b5_6 => ?_
  refine VL.store (vc := [str q19_5_0.verb, str q19_5_0.name, i64 q19_5_0.n, str q19_5_0.text, .bool q19_5_0.force, q19_5_0.todo.val]) (cs' := [str q19_5_0.verb, str q19_5_0.name, i64 q19_5_0.n, str q19_5_0.text, .bool q19_5_0.force, q19_5_0.todo.val]) rfl rfl rfl gsz62 rfl rfl (Nat.le_of_ble_eq_true rfl) rfl ?_
  refine VL.q (q_assign rfl) (by decide) ?_
  refine VL.to (fun _ _ h => h) ?_
  refine VC.seq ?_
  refine VC.region ?_
  obtain ⟨y23_7, ey23_7, hS⟩ := bd_s hS
  refine VL.callF (cmd_Parse_ct [99, 111, 109, 109, 105, 116] ey23_7) rfl (by decide) ?_
  rintro ⟨q23_7_0, q23_7_1⟩ rfl
  try dsimp only
  refine VL.q (q_move rfl) (by decide) ?_
  refine VL.q (q_extract rfl rfl) (by decide) ?_
  refine VL.q (q_extract rfl rfl) (by decide) ?_
  refine VL.alloc (cs := [str [], str [], i64 0, str [], .bool false, .slice none 0 0]) (by kernel_rfl) (by decide) fun b7_8 => ?_
  refine VL.store (vc := [str q23_7_0.verb, str q23_7_0.name, i64 q23_7_0.n, str q23_7_0.text, .bool q23_7_0.force, q23_7_0.todo.val]) (cs' := [str q23_7_0.verb, str q23_7_0.name, i64 q23_7_0.n, str q23_7_0.text, .bool q23_7_0.force, q23_7_0.todo.val]) rfl rfl rfl gsz62 rfl rfl (Nat.le_of_ble_eq_true rfl) rfl ?_
  refine VL.q (q_assign rfl) (by decide) ?_
  refine VL.to (fun _ _ h => h) ?_
  refine VC.keep [1, 2, 3, 4, 6, 8] rfl ?_
  refine VC.seq ?_
  refine VC.region ?_
  obtain ⟨y26_9, ey26_9, hS⟩ := bd_s hS
  refine VL.callF (cmd_Verbs_ct ey26_9) rfl (by decide) ?_
  rintro q26_9_0 rfl
  try dsimp only
  refine VL.q (q_assign rfl) (by decide) ?_
  refine VL.to (fun _ _ h => h) ?_
  refine VC.seq ?_
  refine VC.region ?_
  refine VL.q (q_move rfl) (by decide) ?_
  refine VL.q (q_ereq Tryd.underlying29 rfl) (by decide) ?_
  refine VL.q (q_move rfl) (by decide) ?_
  refine VL.split_dec 29 rfl (fun h29 => ?_) (fun h29 => ?_)
  ·
    replace hS := it_t h29 hS
    refine VL.gy rfl rfl (q_move rfl) (by decide) ?_
    refine VL.gy rfl rfl (q_ereq Tryd.underlying29 rfl) (by decide) ?_
    refine VL.q (q_pick_t rfl rfl) (by decide) ?_
    refine VL.q (q_move rfl) (by decide) ?_
    refine VL.split_dec 33 rfl (fun h33 => ?_) (fun h33 => ?_)
    ·
      replace hS := it_t h33 hS
      refine VL.gy rfl rfl (q_move rfl) (by decide) ?_
      refine VL.gy rfl rfl (q_erne Tryd.underlying29 rfl) (by decide) ?_
      refine VL.q (q_pick_t rfl rfl) (by decide) ?_
      refine VL.q (q_move rfl) (by decide) ?_
      refine VL.split_ndec 37 rfl (fun h37 => ?_) (fun h37 => ?_)
      ·
        replace hS := it_f h37 hS
        refine VL.gy rfl rfl (q_move rfl) (by decide) ?_
        refine VL.gy rfl rfl (q_erne Tryd.underlying29 rfl) (by decide) ?_
        refine VL.q (q_pick_t rfl rfl) (by decide) ?_
        refine VL.q (q_move rfl) (by decide) ?_
        refine VL.split_ndec 41 rfl (fun h41 => ?_) (fun h41 => ?_)
        ·
          replace hS := it_f h41 hS
          refine VL.gy rfl rfl (q_field gfa62_1 rfl) (by decide) ?_
          refine VL.gy rfl rfl (q_fe gone9 rfl rfl) (by decide) ?_
          refine VL.gy rfl rfl (q_seq rfl rfl) (by decide) ?_
          refine VL.q (q_pick_t rfl rfl) (by decide) ?_
          refine VL.q (q_move rfl) (by decide) ?_
          refine VL.split_dec 46 rfl (fun h46 => ?_) (fun h46 => ?_)
          ·
            replace hS := it_t h46 hS
            refine VL.gy rfl rfl (q_field gfa62_2 rfl) (by decide) ?_
            refine VL.gy rfl rfl (q_fe gone3 rfl rfl) (by decide) ?_
            refine VL.gy rfl rfl (q_eql rfl rfl) (by decide) ?_
            refine VL.q (q_pick_t rfl rfl) (by decide) ?_
            refine VL.q (q_move rfl) (by decide) ?_
            refine VL.split_dec 51 rfl (fun h51 => ?_) (fun h51 => ?_)
            ·
              replace hS := it_t h51 hS
              refine VL.gy rfl rfl (q_field gfa62_5 rfl) (by decide) ?_
              refine VL.gy rfl rfl (q_fe gone22 rfl rfl) (by decide) ?_
              refine VL.gy rfl rfl (q_ln (s := q15_3_0.todo) Tryd.underlying22 rfl) (by decide) ?_
              refine VL.gy rfl rfl (q_eql rfl rfl) (by decide) ?_
              refine VL.q (q_pick_t rfl rfl) (by decide) ?_
              refine VL.q (q_move rfl) (by decide) ?_
              refine VL.split_dec 57 rfl (fun h57 => ?_) (fun h57 => ?_)
              ·
                replace hS := it_t h57 hS
                refine VL.gy rfl rfl (q_fes gagg62 rfl rfl) (by decide) ?_
                obtain ⟨y59_10, ey59_10, hS⟩ := bd_s hS
                refine VL.gy rfl rfl (q_call (cmd_Text_ct q15_3_0 ey59_10) rfl (fun _ _ => rfl)) (by decide) ?_
                refine VL.gy rfl rfl (q_seq rfl rfl) (by decide) ?_
                refine VL.q (q_pick_t rfl rfl) (by decide) ?_
                refine VL.q (q_move rfl) (by decide) ?_
                refine VL.split_dec 62 rfl (fun h62 => ?_) (fun h62 => ?_)
                ·
                  replace hS := it_t h62 hS
                  refine VL.gy rfl rfl (q_move rfl) (by decide) ?_
                  refine VL.gy rfl rfl (q_ln (s := q26_9_0) Tryd.underlying38 rfl) (by decide) ?_
                  refine VL.gy rfl rfl (q_eql rfl rfl) (by decide) ?_
                  refine VL.q (q_pick_t rfl rfl) (by decide) ?_
                  refine VL.q (q_move rfl) (by decide) ?_
                  refine VL.split_dec 67 rfl (fun h67 => ?_) (fun h67 => ?_)
                  ·
                    replace hS := it_t h67 hS
                    refine VL.gy rfl rfl (q_move rfl) (by decide) ?_
                    obtain ⟨z69_11, nz69_11, hz69_11, hS⟩ := at_s hS
                    refine VL.gy rfl rfl (q_ixm (s := q26_9_0) Tryd.underlying38 gsz9 rfl rfl nz69_11 (lt_of_get nz69_11 hz69_11)) (by decide) ?_
                    refine VL.gy rfl rfl (q_el (s := q26_9_0) gone9 rfl hz69_11 rfl) (by decide) ?_
                    refine VL.gy rfl rfl (q_seq rfl rfl) (by decide) ?_
                    refine VL.q (q_pick_t rfl rfl) (by decide) ?_
                    refine VL.q (q_move rfl) (by decide) ?_
                    refine VL.split_dec 73 rfl (fun h73 => ?_) (fun h73 => ?_)
                    ·
                      replace hS := it_t h73 hS
                      refine VL.gy rfl rfl (q_fes gagg62 rfl rfl) (by decide) ?_
                      refine VL.gy rfl rfl (q_fes gagg62 rfl rfl) (by decide) ?_
                      obtain ⟨y76_12, ey76_12, hS⟩ := bd_s hS
                      refine VL.gy rfl rfl (q_call (cmd_Same_ct q11_1_0 q11_1_0 ey76_12) rfl (fun _ _ => rfl)) (by decide) ?_
                      refine VL.q (q_pick_t rfl rfl) (by decide) ?_
                      refine VL.q (q_move rfl) (by decide) ?_
                      refine VL.split 78 rfl (fun h78 => ?_) (fun h78 => ?_)
                      ·
                        replace hS := it_t h78 hS
                        refine VL.gy rfl rfl (q_fes gagg62 rfl rfl) (by decide) ?_
                        refine VL.guard rfl rfl ?_
                        obtain ⟨y80_13, ey80_13, hS⟩ := bd_s hS
                        refine VL.callF (cmd_Check_ct q11_1_0 ey80_13) rfl (by decide) ?_
                        rintro q80_13_0 rfl
                        try dsimp only
                        refine VL.gy rfl rfl (q_ereq Tryd.underlying29 rfl) (by decide) ?_
                        refine VL.q (q_pick_t rfl rfl) (by decide) ?_
                        refine VL.q (q_assign rfl) (by decide) ?_
                        refine VL.to (fun _ _ h => h) ?_
                        refine VC.keep [0] rfl ?_
                        cases hS
                        exact VC.ret (fin1 (.inr rfl) rfl rfl () rfl trivial (fun _ _ => trivial) (fun _ _ => trivial))
                      ·
                        replace hS := it_b h78 hS
                        refine VL.gn rfl rfl rfl (by decide) ?_
                        refine VL.gn rfl rfl rfl (by decide) ?_
                        refine VL.gn rfl rfl rfl (by decide) ?_
                        refine VL.q (q_pick_f rfl rfl) (by decide) ?_
                        refine VL.q (q_assign rfl) (by decide) ?_
                        refine VL.to (fun _ _ h => h) ?_
                        refine VC.keep [0] rfl ?_
                        cases hS
                        exact VC.ret (fin1 (.inr rfl) rfl rfl () rfl trivial (fun _ _ => trivial) (fun _ _ => trivial))
                    ·
                      replace hS := it_f h73 hS
                      refine VL.gn rfl rfl rfl (by decide) ?_
                      refine VL.gn rfl rfl rfl (by decide) ?_
                      refine VL.gn rfl rfl rfl (by decide) ?_
                      refine VL.q (q_pick_f rfl rfl) (by decide) ?_
                      refine VL.q (q_move rfl) (by decide) ?_
                      refine VL.gn rfl rfl rfl (by decide) ?_
                      refine VL.gn rfl rfl rfl (by decide) ?_
                      refine VL.gn rfl rfl rfl (by decide) ?_
                      refine VL.q (q_pick_f rfl rfl) (by decide) ?_
                      refine VL.q (q_assign rfl) (by decide) ?_
                      refine VL.to (fun _ _ h => h) ?_
                      refine VC.keep [0] rfl ?_
                      cases hS
                      exact VC.ret (fin1 (.inr rfl) rfl rfl () rfl trivial (fun _ _ => trivial) (fun _ _ => trivial))
                  ·
                    replace hS := it_f h67 hS
                    refine VL.gn rfl rfl rfl (by decide) ?_
                    refine VL.gn rfl rfl rfl (by decide) ?_
                    refine VL.gn rfl rfl rfl (by decide) ?_
                    refine VL.gn rfl rfl rfl (by decide) ?_
                    refine VL.q (q_pick_f rfl rfl) (by decide) ?_
                    refine VL.q (q_move rfl) (by decide) ?_
                    refine VL.gn rfl rfl rfl (by decide) ?_
                    refine VL.gn rfl rfl rfl (by decide) ?_
                    refine VL.gn rfl rfl rfl (by decide) ?_
                    refine VL.q (q_pick_f rfl rfl) (by decide) ?_
                    refine VL.q (q_move rfl) (by decide) ?_
                    refine VL.gn rfl rfl rfl (by decide) ?_
                    refine VL.gn rfl rfl rfl (by decide) ?_
                    refine VL.gn rfl rfl rfl (by decide) ?_
                    refine VL.q (q_pick_f rfl rfl) (by decide) ?_
                    refine VL.q (q_assign rfl) (by decide) ?_
                    refine VL.to (fun _ _ h => h) ?_
                    refine VC.keep [0] rfl ?_
                    cases hS
                    exact VC.ret (fin1 (.inr rfl) rfl rfl () rfl trivial (fun _ _ => trivial) (fun _ _ => trivial))
                ·
                  replace hS := it_f h62 hS
                  refine VL.gn rfl rfl rfl (by decide) ?_
                  refine VL.gn rfl rfl rfl (by decide) ?_
                  refine VL.gn rfl rfl rfl (by decide) ?_
                  refine VL.q (q_pick_f rfl rfl) (by decide) ?_
                  refine VL.q (q_move rfl) (by decide) ?_
                  refine VL.gn rfl rfl rfl (by decide) ?_
                  refine VL.gn rfl rfl rfl (by decide) ?_
                  refine VL.gn rfl rfl rfl (by decide) ?_
                  refine VL.gn rfl rfl rfl (by decide) ?_
                  refine VL.q (q_pick_f rfl rfl) (by decide) ?_
                  refine VL.q (q_move rfl) (by decide) ?_
                  refine VL.gn rfl rfl rfl (by decide) ?_
                  refine VL.gn rfl rfl rfl (by decide) ?_
                  refine VL.gn rfl rfl rfl (by decide) ?_
                  refine VL.q (q_pick_f rfl rfl) (by decide) ?_
                  refine VL.q (q_move rfl) (by decide) ?_
                  refine VL.gn rfl rfl rfl (by decide) ?_
                  refine VL.gn rfl rfl rfl (by decide) ?_
                  refine VL.gn rfl rfl rfl (by decide) ?_
                  refine VL.q (q_pick_f rfl rfl) (by decide) ?_
                  refine VL.q (q_assign rfl) (by decide) ?_
                  refine VL.to (fun _ _ h => h) ?_
                  refine VC.keep [0] rfl ?_
                  cases hS
                  exact VC.ret (fin1 (.inr rfl) rfl rfl () rfl trivial (fun _ _ => trivial) (fun _ _ => trivial))
              ·
                replace hS := it_f h57 hS
                refine VL.gn rfl rfl rfl (by decide) ?_
                refine VL.gn rfl rfl rfl (by decide) ?_
                refine VL.gn rfl rfl rfl (by decide) ?_
                refine VL.q (q_pick_f rfl rfl) (by decide) ?_
                refine VL.q (q_move rfl) (by decide) ?_
                refine VL.gn rfl rfl rfl (by decide) ?_
                refine VL.gn rfl rfl rfl (by decide) ?_
                refine VL.gn rfl rfl rfl (by decide) ?_
                refine VL.q (q_pick_f rfl rfl) (by decide) ?_
                refine VL.q (q_move rfl) (by decide) ?_
                refine VL.gn rfl rfl rfl (by decide) ?_
                refine VL.gn rfl rfl rfl (by decide) ?_
                refine VL.gn rfl rfl rfl (by decide) ?_
                refine VL.gn rfl rfl rfl (by decide) ?_
                refine VL.q (q_pick_f rfl rfl) (by decide) ?_
                refine VL.q (q_move rfl) (by decide) ?_
                refine VL.gn rfl rfl rfl (by decide) ?_
                refine VL.gn rfl rfl rfl (by decide) ?_
                refine VL.gn rfl rfl rfl (by decide) ?_
                refine VL.q (q_pick_f rfl rfl) (by decide) ?_
                refine VL.q (q_move rfl) (by decide) ?_
                refine VL.gn rfl rfl rfl (by decide) ?_
                refine VL.gn rfl rfl rfl (by decide) ?_
                refine VL.gn rfl rfl rfl (by decide) ?_
                refine VL.q (q_pick_f rfl rfl) (by decide) ?_
                refine VL.q (q_assign rfl) (by decide) ?_
                refine VL.to (fun _ _ h => h) ?_
                refine VC.keep [0] rfl ?_
                cases hS
                exact VC.ret (fin1 (.inr rfl) rfl rfl () rfl trivial (fun _ _ => trivial) (fun _ _ => trivial))
            ·
              replace hS := it_f h51 hS
              refine VL.gn rfl rfl rfl (by decide) ?_
              refine VL.gn rfl rfl rfl (by decide) ?_
              refine VL.gn rfl rfl rfl (by decide) ?_
              refine VL.gn rfl rfl rfl (by decide) ?_
              refine VL.q (q_pick_f rfl rfl) (by decide) ?_
              refine VL.q (q_move rfl) (by decide) ?_
              refine VL.gn rfl rfl rfl (by decide) ?_
              refine VL.gn rfl rfl rfl (by decide) ?_
              refine VL.gn rfl rfl rfl (by decide) ?_
              refine VL.q (q_pick_f rfl rfl) (by decide) ?_
              refine VL.q (q_move rfl) (by decide) ?_
              refine VL.gn rfl rfl rfl (by decide) ?_
              refine VL.gn rfl rfl rfl (by decide) ?_
              refine VL.gn rfl rfl rfl (by decide) ?_
              refine VL.q (q_pick_f rfl rfl) (by decide) ?_
              refine VL.q (q_move rfl) (by decide) ?_
              refine VL.gn rfl rfl rfl (by decide) ?_
              refine VL.gn rfl rfl rfl (by decide) ?_
              refine VL.gn rfl rfl rfl (by decide) ?_
              refine VL.gn rfl rfl rfl (by decide) ?_
              refine VL.q (q_pick_f rfl rfl) (by decide) ?_
              refine VL.q (q_move rfl) (by decide) ?_
              refine VL.gn rfl rfl rfl (by decide) ?_
              refine VL.gn rfl rfl rfl (by decide) ?_
              refine VL.gn rfl rfl rfl (by decide) ?_
              refine VL.q (q_pick_f rfl rfl) (by decide) ?_
              refine VL.q (q_move rfl) (by decide) ?_
              refine VL.gn rfl rfl rfl (by decide) ?_
              refine VL.gn rfl rfl rfl (by decide) ?_
              refine VL.gn rfl rfl rfl (by decide) ?_
              refine VL.q (q_pick_f rfl rfl) (by decide) ?_
              refine VL.q (q_assign rfl) (by decide) ?_
              refine VL.to (fun _ _ h => h) ?_
              refine VC.keep [0] rfl ?_
              cases hS
              exact VC.ret (fin1 (.inr rfl) rfl rfl () rfl trivial (fun _ _ => trivial) (fun _ _ => trivial))
          ·
            replace hS := it_f h46 hS
            refine VL.gn rfl rfl rfl (by decide) ?_
            refine VL.gn rfl rfl rfl (by decide) ?_
            refine VL.gn rfl rfl rfl (by decide) ?_
            refine VL.q (q_pick_f rfl rfl) (by decide) ?_
            refine VL.q (q_move rfl) (by decide) ?_
            refine VL.gn rfl rfl rfl (by decide) ?_
            refine VL.gn rfl rfl rfl (by decide) ?_
            refine VL.gn rfl rfl rfl (by decide) ?_
            refine VL.gn rfl rfl rfl (by decide) ?_
            refine VL.q (q_pick_f rfl rfl) (by decide) ?_
            refine VL.q (q_move rfl) (by decide) ?_
            refine VL.gn rfl rfl rfl (by decide) ?_
            refine VL.gn rfl rfl rfl (by decide) ?_
            refine VL.gn rfl rfl rfl (by decide) ?_
            refine VL.q (q_pick_f rfl rfl) (by decide) ?_
            refine VL.q (q_move rfl) (by decide) ?_
            refine VL.gn rfl rfl rfl (by decide) ?_
            refine VL.gn rfl rfl rfl (by decide) ?_
            refine VL.gn rfl rfl rfl (by decide) ?_
            refine VL.q (q_pick_f rfl rfl) (by decide) ?_
            refine VL.q (q_move rfl) (by decide) ?_
            refine VL.gn rfl rfl rfl (by decide) ?_
            refine VL.gn rfl rfl rfl (by decide) ?_
            refine VL.gn rfl rfl rfl (by decide) ?_
            refine VL.gn rfl rfl rfl (by decide) ?_
            refine VL.q (q_pick_f rfl rfl) (by decide) ?_
            refine VL.q (q_move rfl) (by decide) ?_
            refine VL.gn rfl rfl rfl (by decide) ?_
            refine VL.gn rfl rfl rfl (by decide) ?_
            refine VL.gn rfl rfl rfl (by decide) ?_
            refine VL.q (q_pick_f rfl rfl) (by decide) ?_
            refine VL.q (q_move rfl) (by decide) ?_
            refine VL.gn rfl rfl rfl (by decide) ?_
            refine VL.gn rfl rfl rfl (by decide) ?_
            refine VL.gn rfl rfl rfl (by decide) ?_
            refine VL.q (q_pick_f rfl rfl) (by decide) ?_
            refine VL.q (q_assign rfl) (by decide) ?_
            refine VL.to (fun _ _ h => h) ?_
            refine VC.keep [0] rfl ?_
            cases hS
            exact VC.ret (fin1 (.inr rfl) rfl rfl () rfl trivial (fun _ _ => trivial) (fun _ _ => trivial))
        ·
          replace hS := it_t h41 hS
          refine VL.gn rfl rfl rfl (by decide) ?_
          refine VL.gn rfl rfl rfl (by decide) ?_
          refine VL.gn rfl rfl rfl (by decide) ?_
          refine VL.q (q_pick_f rfl rfl) (by decide) ?_
          refine VL.q (q_move rfl) (by decide) ?_
          refine VL.gn rfl rfl rfl (by decide) ?_
          refine VL.gn rfl rfl rfl (by decide) ?_
          refine VL.gn rfl rfl rfl (by decide) ?_
          refine VL.q (q_pick_f rfl rfl) (by decide) ?_
          refine VL.q (q_move rfl) (by decide) ?_
          refine VL.gn rfl rfl rfl (by decide) ?_
          refine VL.gn rfl rfl rfl (by decide) ?_
          refine VL.gn rfl rfl rfl (by decide) ?_
          refine VL.gn rfl rfl rfl (by decide) ?_
          refine VL.q (q_pick_f rfl rfl) (by decide) ?_
          refine VL.q (q_move rfl) (by decide) ?_
          refine VL.gn rfl rfl rfl (by decide) ?_
          refine VL.gn rfl rfl rfl (by decide) ?_
          refine VL.gn rfl rfl rfl (by decide) ?_
          refine VL.q (q_pick_f rfl rfl) (by decide) ?_
          refine VL.q (q_move rfl) (by decide) ?_
          refine VL.gn rfl rfl rfl (by decide) ?_
          refine VL.gn rfl rfl rfl (by decide) ?_
          refine VL.gn rfl rfl rfl (by decide) ?_
          refine VL.q (q_pick_f rfl rfl) (by decide) ?_
          refine VL.q (q_move rfl) (by decide) ?_
          refine VL.gn rfl rfl rfl (by decide) ?_
          refine VL.gn rfl rfl rfl (by decide) ?_
          refine VL.gn rfl rfl rfl (by decide) ?_
          refine VL.gn rfl rfl rfl (by decide) ?_
          refine VL.q (q_pick_f rfl rfl) (by decide) ?_
          refine VL.q (q_move rfl) (by decide) ?_
          refine VL.gn rfl rfl rfl (by decide) ?_
          refine VL.gn rfl rfl rfl (by decide) ?_
          refine VL.gn rfl rfl rfl (by decide) ?_
          refine VL.q (q_pick_f rfl rfl) (by decide) ?_
          refine VL.q (q_move rfl) (by decide) ?_
          refine VL.gn rfl rfl rfl (by decide) ?_
          refine VL.gn rfl rfl rfl (by decide) ?_
          refine VL.gn rfl rfl rfl (by decide) ?_
          refine VL.q (q_pick_f rfl rfl) (by decide) ?_
          refine VL.q (q_assign rfl) (by decide) ?_
          refine VL.to (fun _ _ h => h) ?_
          refine VC.keep [0] rfl ?_
          cases hS
          exact VC.ret (fin1 (.inr rfl) rfl rfl () rfl trivial (fun _ _ => trivial) (fun _ _ => trivial))
      ·
        replace hS := it_t h37 hS
        refine VL.gn rfl rfl rfl (by decide) ?_
        refine VL.gn rfl rfl rfl (by decide) ?_
        refine VL.q (q_pick_f rfl rfl) (by decide) ?_
        refine VL.q (q_move rfl) (by decide) ?_
        refine VL.gn rfl rfl rfl (by decide) ?_
        refine VL.gn rfl rfl rfl (by decide) ?_
        refine VL.gn rfl rfl rfl (by decide) ?_
        refine VL.q (q_pick_f rfl rfl) (by decide) ?_
        refine VL.q (q_move rfl) (by decide) ?_
        refine VL.gn rfl rfl rfl (by decide) ?_
        refine VL.gn rfl rfl rfl (by decide) ?_
        refine VL.gn rfl rfl rfl (by decide) ?_
        refine VL.q (q_pick_f rfl rfl) (by decide) ?_
        refine VL.q (q_move rfl) (by decide) ?_
        refine VL.gn rfl rfl rfl (by decide) ?_
        refine VL.gn rfl rfl rfl (by decide) ?_
        refine VL.gn rfl rfl rfl (by decide) ?_
        refine VL.gn rfl rfl rfl (by decide) ?_
        refine VL.q (q_pick_f rfl rfl) (by decide) ?_
        refine VL.q (q_move rfl) (by decide) ?_
        refine VL.gn rfl rfl rfl (by decide) ?_
        refine VL.gn rfl rfl rfl (by decide) ?_
        refine VL.gn rfl rfl rfl (by decide) ?_
        refine VL.q (q_pick_f rfl rfl) (by decide) ?_
        refine VL.q (q_move rfl) (by decide) ?_
        refine VL.gn rfl rfl rfl (by decide) ?_
        refine VL.gn rfl rfl rfl (by decide) ?_
        refine VL.gn rfl rfl rfl (by decide) ?_
        refine VL.q (q_pick_f rfl rfl) (by decide) ?_
        refine VL.q (q_move rfl) (by decide) ?_
        refine VL.gn rfl rfl rfl (by decide) ?_
        refine VL.gn rfl rfl rfl (by decide) ?_
        refine VL.gn rfl rfl rfl (by decide) ?_
        refine VL.gn rfl rfl rfl (by decide) ?_
        refine VL.q (q_pick_f rfl rfl) (by decide) ?_
        refine VL.q (q_move rfl) (by decide) ?_
        refine VL.gn rfl rfl rfl (by decide) ?_
        refine VL.gn rfl rfl rfl (by decide) ?_
        refine VL.gn rfl rfl rfl (by decide) ?_
        refine VL.q (q_pick_f rfl rfl) (by decide) ?_
        refine VL.q (q_move rfl) (by decide) ?_
        refine VL.gn rfl rfl rfl (by decide) ?_
        refine VL.gn rfl rfl rfl (by decide) ?_
        refine VL.gn rfl rfl rfl (by decide) ?_
        refine VL.q (q_pick_f rfl rfl) (by decide) ?_
        refine VL.q (q_assign rfl) (by decide) ?_
        refine VL.to (fun _ _ h => h) ?_
        refine VC.keep [0] rfl ?_
        cases hS
        exact VC.ret (fin1 (.inr rfl) rfl rfl () rfl trivial (fun _ _ => trivial) (fun _ _ => trivial))
    ·
      replace hS := it_f h33 hS
      refine VL.gn rfl rfl rfl (by decide) ?_
      refine VL.gn rfl rfl rfl (by decide) ?_
      refine VL.q (q_pick_f rfl rfl) (by decide) ?_
      refine VL.q (q_move rfl) (by decide) ?_
      refine VL.gn rfl rfl rfl (by decide) ?_
      refine VL.gn rfl rfl rfl (by decide) ?_
      refine VL.q (q_pick_f rfl rfl) (by decide) ?_
      refine VL.q (q_move rfl) (by decide) ?_
      refine VL.gn rfl rfl rfl (by decide) ?_
      refine VL.gn rfl rfl rfl (by decide) ?_
      refine VL.gn rfl rfl rfl (by decide) ?_
      refine VL.q (q_pick_f rfl rfl) (by decide) ?_
      refine VL.q (q_move rfl) (by decide) ?_
      refine VL.gn rfl rfl rfl (by decide) ?_
      refine VL.gn rfl rfl rfl (by decide) ?_
      refine VL.gn rfl rfl rfl (by decide) ?_
      refine VL.q (q_pick_f rfl rfl) (by decide) ?_
      refine VL.q (q_move rfl) (by decide) ?_
      refine VL.gn rfl rfl rfl (by decide) ?_
      refine VL.gn rfl rfl rfl (by decide) ?_
      refine VL.gn rfl rfl rfl (by decide) ?_
      refine VL.gn rfl rfl rfl (by decide) ?_
      refine VL.q (q_pick_f rfl rfl) (by decide) ?_
      refine VL.q (q_move rfl) (by decide) ?_
      refine VL.gn rfl rfl rfl (by decide) ?_
      refine VL.gn rfl rfl rfl (by decide) ?_
      refine VL.gn rfl rfl rfl (by decide) ?_
      refine VL.q (q_pick_f rfl rfl) (by decide) ?_
      refine VL.q (q_move rfl) (by decide) ?_
      refine VL.gn rfl rfl rfl (by decide) ?_
      refine VL.gn rfl rfl rfl (by decide) ?_
      refine VL.gn rfl rfl rfl (by decide) ?_
      refine VL.q (q_pick_f rfl rfl) (by decide) ?_
      refine VL.q (q_move rfl) (by decide) ?_
      refine VL.gn rfl rfl rfl (by decide) ?_
      refine VL.gn rfl rfl rfl (by decide) ?_
      refine VL.gn rfl rfl rfl (by decide) ?_
      refine VL.gn rfl rfl rfl (by decide) ?_
      refine VL.q (q_pick_f rfl rfl) (by decide) ?_
      refine VL.q (q_move rfl) (by decide) ?_
      refine VL.gn rfl rfl rfl (by decide) ?_
      refine VL.gn rfl rfl rfl (by decide) ?_
      refine VL.gn rfl rfl rfl (by decide) ?_
      refine VL.q (q_pick_f rfl rfl) (by decide) ?_
      refine VL.q (q_move rfl) (by decide) ?_
      refine VL.gn rfl rfl rfl (by decide) ?_
      refine VL.gn rfl rfl rfl (by decide) ?_
      refine VL.gn rfl rfl rfl (by decide) ?_
      refine VL.q (q_pick_f rfl rfl) (by decide) ?_
      refine VL.q (q_assign rfl) (by decide) ?_
      refine VL.to (fun _ _ h => h) ?_
      refine VC.keep [0] rfl ?_
      cases hS
      exact VC.ret (fin1 (.inr rfl) rfl rfl () rfl trivial (fun _ _ => trivial) (fun _ _ => trivial))
  ·
    replace hS := it_f h29 hS
    refine VL.gn rfl rfl rfl (by decide) ?_
    refine VL.gn rfl rfl rfl (by decide) ?_
    refine VL.q (q_pick_f rfl rfl) (by decide) ?_
    refine VL.q (q_move rfl) (by decide) ?_
    refine VL.gn rfl rfl rfl (by decide) ?_
    refine VL.gn rfl rfl rfl (by decide) ?_
    refine VL.q (q_pick_f rfl rfl) (by decide) ?_
    refine VL.q (q_move rfl) (by decide) ?_
    refine VL.gn rfl rfl rfl (by decide) ?_
    refine VL.gn rfl rfl rfl (by decide) ?_
    refine VL.q (q_pick_f rfl rfl) (by decide) ?_
    refine VL.q (q_move rfl) (by decide) ?_
    refine VL.gn rfl rfl rfl (by decide) ?_
    refine VL.gn rfl rfl rfl (by decide) ?_
    refine VL.gn rfl rfl rfl (by decide) ?_
    refine VL.q (q_pick_f rfl rfl) (by decide) ?_
    refine VL.q (q_move rfl) (by decide) ?_
    refine VL.gn rfl rfl rfl (by decide) ?_
    refine VL.gn rfl rfl rfl (by decide) ?_
    refine VL.gn rfl rfl rfl (by decide) ?_
    refine VL.q (q_pick_f rfl rfl) (by decide) ?_
    refine VL.q (q_move rfl) (by decide) ?_
    refine VL.gn rfl rfl rfl (by decide) ?_
    refine VL.gn rfl rfl rfl (by decide) ?_
    refine VL.gn rfl rfl rfl (by decide) ?_
    refine VL.gn rfl rfl rfl (by decide) ?_
    refine VL.q (q_pick_f rfl rfl) (by decide) ?_
    refine VL.q (q_move rfl) (by decide) ?_
    refine VL.gn rfl rfl rfl (by decide) ?_
    refine VL.gn rfl rfl rfl (by decide) ?_
    refine VL.gn rfl rfl rfl (by decide) ?_
    refine VL.q (q_pick_f rfl rfl) (by decide) ?_
    refine VL.q (q_move rfl) (by decide) ?_
    refine VL.gn rfl rfl rfl (by decide) ?_
    refine VL.gn rfl rfl rfl (by decide) ?_
    refine VL.gn rfl rfl rfl (by decide) ?_
    refine VL.q (q_pick_f rfl rfl) (by decide) ?_
    refine VL.q (q_move rfl) (by decide) ?_
    refine VL.gn rfl rfl rfl (by decide) ?_
    refine VL.gn rfl rfl rfl (by decide) ?_
    refine VL.gn rfl rfl rfl (by decide) ?_
    refine VL.gn rfl rfl rfl (by decide) ?_
    refine VL.q (q_pick_f rfl rfl) (by decide) ?_
    refine VL.q (q_move rfl) (by decide) ?_
    refine VL.gn rfl rfl rfl (by decide) ?_
    refine VL.gn rfl rfl rfl (by decide) ?_
    refine VL.gn rfl rfl rfl (by decide) ?_
    refine VL.q (q_pick_f rfl rfl) (by decide) ?_
    refine VL.q (q_move rfl) (by decide) ?_
    refine VL.gn rfl rfl rfl (by decide) ?_
    refine VL.gn rfl rfl rfl (by decide) ?_
    refine VL.gn rfl rfl rfl (by decide) ?_
    refine VL.q (q_pick_f rfl rfl) (by decide) ?_
    refine VL.q (q_assign rfl) (by decide) ?_
    refine VL.to (fun _ _ h => h) ?_
    refine VC.keep [0] rfl ?_
    cases hS
    exact VC.ret (fin1 (.inr rfl) rfl rfl () rfl trivial (fun _ _ => trivial) (fun _ _ => trivial))

set_option maxHeartbeats 4000000 in
set_option maxRecDepth 100000 in
theorem rectolaw22_CmdVerbs_ct (a_0 : Int) {r : Bool} (hS : Sh.rectolaw22_CmdVerbs a_0 = some r) :
    Ct Tryd.prog 8 [.int .u8 a_0] Gl (Ow.emp) (X := Unit) (fun _ => .bool r) (fun _ => True) (fun _ => Mo.tt) (fun _ => Ow.emp) := by
  refine Ct.of Tryd.func8 rfl (by kernel_rfl) Tryd.ntmps8 (by simp) fun c => ?_
  unfold Sh.rectolaw22_CmdVerbs at hS
  refine VC.seq ?_
  refine VC.region ?_
  refine VL.q (q_assign rfl) (by decide) ?_
  refine VL.to (fun _ _ h => h) ?_
  refine VC.seq ?_
  refine VC.seq ?_
  refine VC.region ?_
  obtain ⟨y9_1, ey9_1, hS⟩ := bd_s hS
  refine VL.q (q_call (rectolaw22_known_ct ey9_1) rfl (fun _ _ => rfl)) (by decide) ?_
  refine VL.q (q_not rfl) (by decide) ?_
  refine VL.to (fun _ _ h => h) ?_
  refine VC.cond rfl (fun h10 => ?_) (fun h10 => ?_)
  ·
    replace hS := it_t h10 hS
    refine VC.seq ?_
    refine VC.region ?_
    refine VL.q (q_assign rfl) (by decide) ?_
    refine VL.to (fun _ _ h => h) ?_
    cases hS
    exact VC.ret (fin1 (.inr rfl) rfl rfl () rfl trivial (fun _ _ => trivial) (fun _ _ => trivial))
  ·
    replace hS := it_b h10 hS
    refine VC.skip_to (fun _ _ h => h) ?_
    refine VC.seq ?_
    refine VC.region ?_
    obtain ⟨y11_2, ey11_2, hS⟩ := bd_s hS
    refine VL.callF (cmd_Verbs_ct ey11_2) rfl (by decide) ?_
    rintro q11_2_0 rfl
    try dsimp only
    refine VL.q (q_assign rfl) (by decide) ?_
    refine VL.to (fun _ _ h => h) ?_
    refine VC.seq ?_
    refine VC.seq ?_
    refine VC.region ?_
    refine VL.q (q_move rfl) (by decide) ?_
    refine VL.q (q_ln (s := q11_2_0) Tryd.underlying38 rfl) (by decide) ?_
    refine VL.q (q_neq rfl rfl) (by decide) ?_
    refine VL.to (fun _ _ h => h) ?_
    refine VC.cond_ndec rfl (fun h14 => ?_) (fun h14 => ?_)
    ·
      replace hS := it_f h14 hS
      refine VC.seq ?_
      refine VC.region ?_
      refine VL.q (q_assign rfl) (by decide) ?_
      refine VL.to (fun _ _ h => h) ?_
      cases hS
      exact VC.ret (fin1 (.inr rfl) rfl rfl () rfl trivial (fun _ _ => trivial) (fun _ _ => trivial))
    ·
      replace hS := it_t h14 hS
      refine VC.skip_to (fun _ _ h => h) ?_
      refine VC.seq ?_
      refine VC.region ?_
      refine VL.q (q_move rfl) (by decide) ?_
      refine VL.q (q_move rfl) (by decide) ?_
      refine VL.q (q_convW Tryd.underlying5 Tryd.underlying3 rfl) (by decide) ?_
      obtain ⟨b18, hS⟩ := gd_s hS
      refine VL.q (q_rem rfl rfl b18) (by decide) ?_
      obtain ⟨z19_3, nz19_3, hz19_3, hS⟩ := at_s hS
      refine VL.q (q_ixm (s := q11_2_0) Tryd.underlying38 gsz9 rfl rfl nz19_3 (lt_of_get nz19_3 hz19_3)) (by decide) ?_
      refine VL.q (q_el (s := q11_2_0) gone9 rfl hz19_3 rfl) (by decide) ?_
      refine VL.q (q_assign rfl) (by decide) ?_
      refine VL.to (fun _ _ h => h) ?_
      refine VC.keep [0, 3, 4] rfl ?_
      refine VC.seq ?_
      refine VC.region ?_
      refine VL.q (q_move rfl) (by decide) ?_
      obtain ⟨y23_4, ey23_4, hS⟩ := bd_s hS
      refine VL.callF (cmd_Parse_ct z19_3 ey23_4) rfl (by decide) ?_
      rintro ⟨q23_4_0, q23_4_1⟩ rfl
      try dsimp only
      refine VL.q (q_move rfl) (by decide) ?_
      refine VL.q (q_extract rfl rfl) (by decide) ?_
      refine VL.q (q_extract rfl rfl) (by decide) ?_
      refine VL.alloc (cs := [str [], str [], i64 0, str [], .bool false, .slice none 0 0]) (by kernel_rfl) (by decide) fun b5_5 => ?_
      refine VL.store (vc := [str q23_4_0.verb, str q23_4_0.name, i64 q23_4_0.n, str q23_4_0.text, .bool q23_4_0.force, q23_4_0.todo.val]) (cs' := [str q23_4_0.verb, str q23_4_0.name, i64 q23_4_0.n, str q23_4_0.text, .bool q23_4_0.force, q23_4_0.todo.val]) rfl rfl rfl gsz62 rfl rfl (Nat.le_of_ble_eq_true rfl) rfl ?_
      refine VL.q (q_assign rfl) (by decide) ?_
      refine VL.to (fun _ _ h => h) ?_
      refine VC.seq ?_
      refine VC.region ?_
      refine VL.q (q_assign rfl) (by decide) ?_
      refine VL.to (fun _ _ h => h) ?_
      refine VC.cutJ (S := Bool) (fun (x7_6 : Bool) => x7_6) (fun (x7_6 : Bool) => [(0, .int .u8 a_0), (3, q11_2_0.val), (4, str z19_3), (5, ptr b5_5 0), (6, q23_4_1.val), (7, .bool x7_6)]) (fun (x7_6 : Bool) => Mo.tt) (fun (x7_6 : Bool) => Ow.star (Blk b5_5 [str q23_4_0.verb, str q23_4_0.name, i64 q23_4_0.n, str q23_4_0.text, .bool q23_4_0.force, q23_4_0.todo.val] 62) (Ow.emp)) hS ?_ ?_
      · -- up to where ways meet
        clear hS
        intro k7 hS
        refine VC.seq ?_
        refine VC.region ?_
        refine VL.q (q_move rfl) (by decide) ?_
        refine VL.to (fun _ _ h => h) ?_
        refine VC.block ?_
        refine VC.cutJ (S := Bool) (fun (x27_8 : Bool) => x27_8) (fun (x27_8 : Bool) => [(0, .int .u8 a_0), (3, q11_2_0.val), (4, str z19_3), (5, ptr b5_5 0), (6, q23_4_1.val), (7, .bool true), (27, .bool x27_8)]) (fun (x27_8 : Bool) => Mo.tt) (fun (x27_8 : Bool) => Ow.star (Blk b5_5 [str q23_4_0.verb, str q23_4_0.name, i64 q23_4_0.n, str q23_4_0.text, .bool q23_4_0.force, q23_4_0.todo.val] 62) (Ow.emp)) hS ?_ ?_
        · -- up to where ways meet
          clear hS
          intro k9 hS
          refine VC.seq ?_
          refine VC.region ?_
          refine VL.q (q_seq rfl rfl) (by decide) ?_
          refine VL.q (q_assign rfl) (by decide) ?_
          refine VL.to (fun _ _ h => h) ?_
          refine VC.cond_dec rfl (fun h27 => ?_) (fun h27 => ?_)
          ·
            replace hS := it_t h27 hS
            refine VC.skip_mt (decide (z19_3 = [97, 100, 100])) [0, 3, 4, 5, 6, 7, 27] (fun _ _ h => h) hS rfl
          ·
            replace hS := it_f h27 hS
            refine VC.seq ?_
            refine VC.region ?_
            refine VL.q (q_seq rfl rfl) (by decide) ?_
            refine VL.q (q_assign rfl) (by decide) ?_
            refine VL.to (fun _ _ h => h) ?_
            refine VC.keep [0, 3, 4, 5, 6, 7, 26, 27] rfl ?_
            refine VC.cond_dec rfl (fun h27 => ?_) (fun h27 => ?_)
            ·
              replace hS := it_t h27 hS
              refine VC.skip_mt (decide (z19_3 = [115, 116, 97, 115, 104])) [0, 3, 4, 5, 6, 7, 27] (fun _ _ h => h) hS rfl
            ·
              replace hS := it_f h27 hS
              refine VC.seq ?_
              refine VC.region ?_
              refine VL.q (q_seq rfl rfl) (by decide) ?_
              refine VL.q (q_assign rfl) (by decide) ?_
              refine VL.to (fun _ _ h => h) ?_
              refine VC.cond_dec rfl (fun h27 => ?_) (fun h27 => ?_)
              ·
                replace hS := it_t h27 hS
                refine VC.skip_mt (decide (z19_3 = [99, 111, 110, 116, 105, 110, 117, 101])) [0, 3, 4, 5, 6, 7, 27] (fun _ _ h => h) hS rfl
              ·
                replace hS := it_f h27 hS
                refine VC.seq ?_
                refine VC.region ?_
                refine VL.q (q_seq rfl rfl) (by decide) ?_
                refine VL.q (q_assign rfl) (by decide) ?_
                refine VL.to (fun _ _ h => h) ?_
                refine VC.cond_dec rfl (fun h27 => ?_) (fun h27 => ?_)
                ·
                  replace hS := it_t h27 hS
                  refine VC.skip_mt (decide (z19_3 = [115, 107, 105, 112])) [0, 3, 4, 5, 6, 7, 27] (fun _ _ h => h) hS rfl
                ·
                  replace hS := it_f h27 hS
                  refine VC.seq ?_
                  refine VC.region ?_
                  refine VL.q (q_seq rfl rfl) (by decide) ?_
                  refine VL.q (q_assign rfl) (by decide) ?_
                  refine VL.to (fun _ _ h => h) ?_
                  refine VC.cond_dec rfl (fun h27 => ?_) (fun h27 => ?_)
                  ·
                    replace hS := it_t h27 hS
                    refine VC.skip_mt (decide (z19_3 = [97, 98, 111, 114, 116])) [0, 3, 4, 5, 6, 7, 27] (fun _ _ h => h) hS rfl
                  ·
                    replace hS := it_f h27 hS
                    refine VC.seq ?_
                    refine VC.region ?_
                    refine VL.q (q_seq rfl rfl) (by decide) ?_
                    refine VL.q (q_assign rfl) (by decide) ?_
                    refine VL.to (fun _ _ h => h) ?_
                    refine VC.cond_dec rfl (fun h27 => ?_) (fun h27 => ?_)
                    ·
                      replace hS := it_t h27 hS
                      refine VC.skip_mt (decide (z19_3 = [117, 110, 100, 111])) [0, 3, 4, 5, 6, 7, 27] (fun _ _ h => h) hS rfl
                    ·
                      replace hS := it_f h27 hS
                      refine VC.region ?_
                      refine VL.q (q_seq rfl rfl) (by decide) ?_
                      refine VL.q (q_assign rfl) (by decide) ?_
                      refine VL.mt (decide (z19_3 = [114, 101, 100, 111])) [0, 3, 4, 5, 6, 7, 27] (fun _ _ h => h) hS rfl
        · -- from there
          clear hS
          rintro x27_8 hS
          show VC _ _ _ _ _ [(0, .int .u8 a_0), (3, q11_2_0.val), (4, str z19_3), (5, ptr b5_5 0), (6, q23_4_1.val), (7, .bool true), (27, .bool x27_8)] (Mo.and Mo.tt _) (Ow.star (Blk b5_5 [str q23_4_0.verb, str q23_4_0.name, i64 q23_4_0.n, str q23_4_0.text, .bool q23_4_0.force, q23_4_0.todo.val] 62) (Ow.emp))
          refine VC.cond rfl (fun h27 => ?_) (fun h27 => ?_)
          ·
            replace hS := it_t h27 hS
            refine VC.region ?_
            refine VL.q (q_assign rfl) (by decide) ?_
            refine VL.mt false [0, 3, 4, 5, 6, 7] (fun _ _ h => h) hS rfl
          ·
            replace hS := it_b h27 hS
            refine VC.skip_mt true [0, 3, 4, 5, 6, 7] (fun _ _ h => h) hS rfl
      · -- from there
        clear hS
        rintro x7_6 hS
        show VC _ _ _ _ _ [(0, .int .u8 a_0), (3, q11_2_0.val), (4, str z19_3), (5, ptr b5_5 0), (6, q23_4_1.val), (7, .bool x7_6)] (Mo.and Mo.tt _) (Ow.star (Blk b5_5 [str q23_4_0.verb, str q23_4_0.name, i64 q23_4_0.n, str q23_4_0.text, .bool q23_4_0.force, q23_4_0.todo.val] 62) (Ow.emp))
        refine VC.seq ?_
        refine VC.seq ?_
        refine VC.region ?_
        refine VL.q (q_assign rfl) (by decide) ?_
        refine VL.to (fun _ _ h => h) ?_
        refine VC.block ?_
        refine VC.iter (S := Int) (fun (x8_10 : Int) => x8_10) (fun (x8_10 : Int) => [(0, .int .u8 a_0), (3, q11_2_0.val), (4, str z19_3), (5, ptr b5_5 0), (6, q23_4_1.val), (7, .bool x7_6), (8, i64 x8_10)]) (fun (x8_10 : Int) => Mo.tt) (fun (x8_10 : Int) => Ow.star (Blk b5_5 [str q23_4_0.verb, str q23_4_0.name, i64 q23_4_0.n, str q23_4_0.text, .bool q23_4_0.force, q23_4_0.todo.val] 62) (Ow.emp)) 0 [0, 3, 4, 5, 6, 7, 8] hS rfl ?_
        clear hS
        rintro x8_10 m1 y1 hS hK1
        show VC _ _ _ _ _ [(0, .int .u8 a_0), (3, q11_2_0.val), (4, str z19_3), (5, ptr b5_5 0), (6, q23_4_1.val), (7, .bool x7_6), (8, i64 x8_10)] (Mo.and Mo.tt _) (Ow.star (Blk b5_5 [str q23_4_0.verb, str q23_4_0.name, i64 q23_4_0.n, str q23_4_0.text, .bool q23_4_0.force, q23_4_0.todo.val] 62) (Ow.emp))
        refine VC.seq ?_
        refine VC.seq ?_
        refine VC.region ?_
        refine VL.q (q_move rfl) (by decide) ?_
        refine VL.q (q_lss rfl rfl) (by decide) ?_
        refine VL.to (fun _ _ h => h) ?_
        refine VC.cond_dec rfl (fun h36 => ?_) (fun h36 => ?_)
        ·
          replace hS := it_t h36 hS
          refine VC.skip_to (fun _ _ h => h) ?_
          refine VC.seq ?_
          refine VC.block ?_
          refine VC.cutJ (S := Bool) (fun (x51_11 : Bool) => x51_11) (fun (x51_11 : Bool) => [(0, .int .u8 a_0), (3, q11_2_0.val), (4, str z19_3), (5, ptr b5_5 0), (6, q23_4_1.val), (7, .bool x7_6), (8, i64 x8_10), (51, .bool x51_11)]) (fun (x51_11 : Bool) => Mo.tt) (fun (x51_11 : Bool) => Ow.star (Blk b5_5 [str q23_4_0.verb, str q23_4_0.name, i64 q23_4_0.n, str q23_4_0.text, .bool q23_4_0.force, q23_4_0.todo.val] 62) (Ow.emp)) hS ?_ ?_
          · -- up to where ways meet
            clear hS
            intro k12 hS
            refine VC.region ?_
            refine VL.q (q_move rfl) (by decide) ?_
            refine VL.q (q_move rfl) (by decide) ?_
            refine VL.q (q_convW Tryd.underlying5 Tryd.underlying3 rfl) (by decide) ?_
            obtain ⟨b42, hS⟩ := gd_s hS
            refine VL.q (q_rem rfl rfl b42) (by decide) ?_
            refine VL.q (q_neq rfl rfl) (by decide) ?_
            refine VL.q (q_move rfl) (by decide) ?_
            refine VL.split_ndec 44 rfl (fun h44 => ?_) (fun h44 => ?_)
            ·
              replace hS := it_f h44 hS
              refine VL.gy rfl rfl (q_move rfl) (by decide) ?_
              refine VL.gy rfl rfl (q_move rfl) (by decide) ?_
              obtain ⟨z47_13, nz47_13, hz47_13, hS⟩ := at_s hS
              refine VL.gy rfl rfl (q_ixm (s := q11_2_0) Tryd.underlying38 gsz9 rfl rfl nz47_13 (lt_of_get nz47_13 hz47_13)) (by decide) ?_
              refine VL.gy rfl rfl (q_el (s := q11_2_0) gone9 rfl hz47_13 rfl) (by decide) ?_
              refine VL.gy rfl rfl (q_move rfl) (by decide) ?_
              refine VL.gy rfl rfl (q_seq rfl rfl) (by decide) ?_
              refine VL.q (q_pick_t rfl rfl) (by decide) ?_
              refine VL.mt (decide (z47_13 = z19_3)) [0, 3, 4, 5, 6, 7, 8, 51] (fun _ _ h => h) hS rfl
            ·
              replace hS := it_t h44 hS
              refine VL.gn rfl rfl rfl (by decide) ?_
              refine VL.gn rfl rfl rfl (by decide) ?_
              refine VL.gn rfl rfl rfl (by decide) ?_
              refine VL.gn rfl rfl rfl (by decide) ?_
              refine VL.gn rfl rfl rfl (by decide) ?_
              refine VL.gn rfl rfl rfl (by decide) ?_
              refine VL.q (q_pick_f rfl rfl) (by decide) ?_
              refine VL.mt false [0, 3, 4, 5, 6, 7, 8, 51] (fun _ _ h => h) hS rfl
          · -- from there
            clear hS
            rintro x51_11 hS
            show VC _ _ _ _ _ [(0, .int .u8 a_0), (3, q11_2_0.val), (4, str z19_3), (5, ptr b5_5 0), (6, q23_4_1.val), (7, .bool x7_6), (8, i64 x8_10), (51, .bool x51_11)] (Mo.and Mo.tt _) (Ow.star (Blk b5_5 [str q23_4_0.verb, str q23_4_0.name, i64 q23_4_0.n, str q23_4_0.text, .bool q23_4_0.force, q23_4_0.todo.val] 62) (Ow.emp))
            refine VC.cond rfl (fun h51 => ?_) (fun h51 => ?_)
            ·
              replace hS := it_t h51 hS
              refine VC.seq ?_
              refine VC.region ?_
              refine VL.q (q_assign rfl) (by decide) ?_
              refine VL.to (fun _ _ h => h) ?_
              replace hS := up2 hS hK1
              cases hS
              exact VC.ret (fin1 (.inr rfl) rfl rfl () rfl trivial (fun _ _ => trivial) (fun _ _ => trivial))
            ·
              replace hS := it_b h51 hS
              refine VC.skip_to (fun _ _ h => h) ?_
              refine VC.region ?_
              refine VL.q (q_move rfl) (by decide) ?_
              obtain ⟨b38, hS⟩ := gd_s hS
              refine VL.q (q_add rfl rfl b38) (by decide) ?_
              refine VL.q (q_assign rfl) (by decide) ?_
              refine VL.rnd (x8_10 + 1) [0, 3, 4, 5, 6, 7, 8] (fun _ _ h => h) (go2 hS hK1) rfl
        ·
          replace hS := it_f h36 hS
          replace hS := up2 hS hK1
          refine VC.exit_to (fun _ _ h => h) ?_
          refine VC.seq ?_
          refine VC.region ?_
          refine VL.q (q_move rfl) (by decide) ?_
          refine VL.q (q_erne Tryd.underlying29 rfl) (by decide) ?_
          refine VL.q (q_move rfl) (by decide) ?_
          refine VL.q (q_beql Tryd.underlying4 rfl rfl) (by decide) ?_
          refine VL.q (q_move rfl) (by decide) ?_
          refine VL.split_dec 56 rfl (fun h56 => ?_) (fun h56 => ?_)
          ·
            replace hS := it_t h56 hS
            refine VL.gy rfl rfl (q_move rfl) (by decide) ?_
            refine VL.gy rfl rfl (q_move rfl) (by decide) ?_
            refine VL.split 58 rfl (fun h58 => ?_) (fun h58 => ?_)
            ·
              replace hS := it_t h58 hS
              refine VL.gn rfl rfl rfl (by decide) ?_
              refine VL.gn rfl rfl rfl (by decide) ?_
              refine VL.gn rfl rfl rfl (by decide) ?_
              refine VL.gn rfl rfl rfl (by decide) ?_
              refine VL.gn rfl rfl rfl (by decide) ?_
              refine VL.gu rfl rfl (by decide) ?_
              refine VL.gu rfl rfl (by decide) ?_
              refine VL.gu rfl rfl (by decide) ?_
              refine VL.gu rfl rfl (by decide) ?_
              refine VL.gn rfl rfl rfl (by decide) ?_
              refine VL.gn rfl rfl rfl (by decide) ?_
              refine VL.gu rfl rfl (by decide) ?_
              refine VL.gu rfl rfl (by decide) ?_
              refine VL.gu rfl rfl (by decide) ?_
              refine VL.gn rfl rfl rfl (by decide) ?_
              refine VL.gy rfl rfl (q_pick_t rfl rfl) (by decide) ?_
              refine VL.q (q_pick_t rfl rfl) (by decide) ?_
              refine VL.q (q_assign rfl) (by decide) ?_
              refine VL.to (fun _ _ h => h) ?_
              refine VC.keep [2] rfl ?_
              cases hS
              exact VC.ret (fin1 (.inr rfl) rfl rfl () rfl trivial (fun _ _ => trivial) (fun _ _ => trivial))
            ·
              replace hS := it_b h58 hS
              refine VL.gy rfl rfl (q_field gfa62_0 rfl) (by decide) ?_
              refine VL.gy rfl rfl (q_fe gone9 rfl rfl) (by decide) ?_
              refine VL.gy rfl rfl (q_move rfl) (by decide) ?_
              refine VL.gy rfl rfl (q_seq rfl rfl) (by decide) ?_
              refine VL.gy rfl rfl (q_move rfl) (by decide) ?_
              refine VL.split_dec 63 rfl (fun h63 => ?_) (fun h63 => ?_)
              ·
                replace hS := it_t h63 hS
                refine VL.gy rfl rfl (q_fes gagg62 rfl rfl) (by decide) ?_
                obtain ⟨y65_14, ey65_14, hS⟩ := bd_s hS
                refine VL.gy rfl rfl (q_call (cmd_Text_ct q23_4_0 ey65_14) rfl (fun _ _ => rfl)) (by decide) ?_
                refine VL.gy rfl rfl (q_move rfl) (by decide) ?_
                refine VL.gy rfl rfl (q_seq rfl rfl) (by decide) ?_
                refine VL.gy rfl rfl (q_pick_t rfl rfl) (by decide) ?_
                refine VL.gy rfl rfl (q_move rfl) (by decide) ?_
                refine VL.split_dec 69 rfl (fun h69 => ?_) (fun h69 => ?_)
                ·
                  replace hS := it_t h69 hS
                  refine VL.gy rfl rfl (q_fes gagg62 rfl rfl) (by decide) ?_
                  refine VL.guard rfl rfl ?_
                  obtain ⟨y71_15, ey71_15, hS⟩ := bd_s hS
                  refine VL.callF (cmd_Check_ct q23_4_0 ey71_15) rfl (by decide) ?_
                  rintro q71_15_0 rfl
                  try dsimp only
                  refine VL.gy rfl rfl (q_ereq Tryd.underlying29 rfl) (by decide) ?_
                  refine VL.gy rfl rfl (q_pick_t rfl rfl) (by decide) ?_
                  refine VL.gy rfl rfl (q_pick_f rfl rfl) (by decide) ?_
                  refine VL.q (q_pick_t rfl rfl) (by decide) ?_
                  refine VL.q (q_assign rfl) (by decide) ?_
                  refine VL.to (fun _ _ h => h) ?_
                  refine VC.keep [2] rfl ?_
                  cases hS
                  exact VC.ret (fin1 (.inr rfl) rfl rfl () rfl trivial (fun _ _ => trivial) (fun _ _ => trivial))
                ·
                  replace hS := it_f h69 hS
                  refine VL.gn rfl rfl rfl (by decide) ?_
                  refine VL.gn rfl rfl rfl (by decide) ?_
                  refine VL.gn rfl rfl rfl (by decide) ?_
                  refine VL.gy rfl rfl (q_pick_f rfl rfl) (by decide) ?_
                  refine VL.gy rfl rfl (q_pick_f rfl rfl) (by decide) ?_
                  refine VL.q (q_pick_t rfl rfl) (by decide) ?_
                  refine VL.q (q_assign rfl) (by decide) ?_
                  refine VL.to (fun _ _ h => h) ?_
                  refine VC.keep [2] rfl ?_
                  cases hS
                  exact VC.ret (fin1 (.inr rfl) rfl rfl () rfl trivial (fun _ _ => trivial) (fun _ _ => trivial))
              ·
                replace hS := it_f h63 hS
                refine VL.gn rfl rfl rfl (by decide) ?_
                refine VL.gn rfl rfl rfl (by decide) ?_
                refine VL.gn rfl rfl rfl (by decide) ?_
                refine VL.gn rfl rfl rfl (by decide) ?_
                refine VL.gy rfl rfl (q_pick_f rfl rfl) (by decide) ?_
                refine VL.gy rfl rfl (q_move rfl) (by decide) ?_
                refine VL.gn rfl rfl rfl (by decide) ?_
                refine VL.gn rfl rfl rfl (by decide) ?_
                refine VL.gn rfl rfl rfl (by decide) ?_
                refine VL.gy rfl rfl (q_pick_f rfl rfl) (by decide) ?_
                refine VL.gy rfl rfl (q_pick_f rfl rfl) (by decide) ?_
                refine VL.q (q_pick_t rfl rfl) (by decide) ?_
                refine VL.q (q_assign rfl) (by decide) ?_
                refine VL.to (fun _ _ h => h) ?_
                refine VC.keep [2] rfl ?_
                cases hS
                exact VC.ret (fin1 (.inr rfl) rfl rfl () rfl trivial (fun _ _ => trivial) (fun _ _ => trivial))
          ·
            replace hS := it_f h56 hS
            refine VL.gn rfl rfl rfl (by decide) ?_
            refine VL.gn rfl rfl rfl (by decide) ?_
            refine VL.gu rfl rfl (by decide) ?_
            refine VL.gu rfl rfl (by decide) ?_
            refine VL.gu rfl rfl (by decide) ?_
            refine VL.gu rfl rfl (by decide) ?_
            refine VL.gu rfl rfl (by decide) ?_
            refine VL.gu rfl rfl (by decide) ?_
            refine VL.gu rfl rfl (by decide) ?_
            refine VL.gu rfl rfl (by decide) ?_
            refine VL.gu rfl rfl (by decide) ?_
            refine VL.gu rfl rfl (by decide) ?_
            refine VL.gu rfl rfl (by decide) ?_
            refine VL.gu rfl rfl (by decide) ?_
            refine VL.gu rfl rfl (by decide) ?_
            refine VL.gu rfl rfl (by decide) ?_
            refine VL.gu rfl rfl (by decide) ?_
            refine VL.gn rfl rfl rfl (by decide) ?_
            refine VL.q (q_pick_f rfl rfl) (by decide) ?_
            refine VL.q (q_assign rfl) (by decide) ?_
            refine VL.to (fun _ _ h => h) ?_
            refine VC.keep [2] rfl ?_
            cases hS
            exact VC.ret (fin1 (.inr rfl) rfl rfl () rfl trivial (fun _ _ => trivial) (fun _ _ => trivial))

set_option maxHeartbeats 4000000 in
set_option maxRecDepth 100000 in
theorem rectolaw22_Few_ct (c_0 : CmdCmd) {r : Bool} (hS : Sh.rectolaw22_Few c_0.pl = some r) :
    Ct Tryd.prog 31 [.agg #[str c_0.verb, str c_0.name, i64 c_0.n, str c_0.text, .bool c_0.force, c_0.todo.val]] c_0.todo.ok (Ow.emp) (X := Unit) (fun _ => .bool r) (fun _ => True) (fun _ => Mo.tt) (fun _ => Ow.emp) := by
  refine Ct.of Tryd.func31 rfl (by kernel_rfl) Tryd.ntmps31 (by simp) fun c => ?_
  unfold Sh.rectolaw22_Few at hS
  refine VC.seq ?_
  refine VC.region ?_
  refine VL.box (cs := [str c_0.verb, str c_0.name, i64 c_0.n, str c_0.text, .bool c_0.force, c_0.todo.val]) rfl rfl (by decide) fun b1_1 => ?_
  refine VL.q (q_assign rfl) (by decide) ?_
  refine VL.to (fun _ _ h => h) ?_
  refine VC.seq ?_
  refine VC.cutJ (S := Bool) (fun (x25_2 : Bool) => x25_2) (fun (x25_2 : Bool) => [(1, ptr b1_1 0), (25, .bool x25_2)]) (fun (x25_2 : Bool) => Mo.tt) (fun (x25_2 : Bool) => Ow.star (Blk b1_1 [str c_0.verb, str c_0.name, i64 c_0.n, str c_0.text, .bool c_0.force, c_0.todo.val] 62) (Ow.emp)) hS ?_ ?_
  · -- up to where ways meet
    clear hS
    intro k3 hS
    refine VC.region ?_
    refine VL.q (q_field gfa62_0 rfl) (by decide) ?_
    refine VL.q (q_fe gone9 rfl rfl) (by decide) ?_
    refine VL.q (q_slen Tryd.underlying9 rfl) (by decide) ?_
    refine VL.q (q_gtr rfl rfl) (by decide) ?_
    refine VL.q (q_move rfl) (by decide) ?_
    refine VL.split_dec 8 rfl (fun h8 => ?_) (fun h8 => ?_)
    ·
      replace hS := it_t h8 hS
      refine VL.gn rfl rfl rfl (by decide) ?_
      refine VL.gn rfl rfl rfl (by decide) ?_
      refine VL.gn rfl rfl rfl (by decide) ?_
      refine VL.gn rfl rfl rfl (by decide) ?_
      refine VL.q (q_pick_t rfl rfl) (by decide) ?_
      refine VL.q (q_move rfl) (by decide) ?_
      refine VL.gn rfl rfl rfl (by decide) ?_
      refine VL.gn rfl rfl rfl (by decide) ?_
      refine VL.gn rfl rfl rfl (by decide) ?_
      refine VL.gn rfl rfl rfl (by decide) ?_
      refine VL.q (q_pick_t rfl rfl) (by decide) ?_
      refine VL.q (q_move rfl) (by decide) ?_
      refine VL.gn rfl rfl rfl (by decide) ?_
      refine VL.gn rfl rfl rfl (by decide) ?_
      refine VL.gn rfl rfl rfl (by decide) ?_
      refine VL.gn rfl rfl rfl (by decide) ?_
      refine VL.q (q_pick_t rfl rfl) (by decide) ?_
      refine VL.mt true [1, 25] (fun _ _ h => h) hS rfl
    ·
      replace hS := it_f h8 hS
      refine VL.gy rfl rfl (q_field gfa62_1 rfl) (by decide) ?_
      refine VL.gy rfl rfl (q_fe gone9 rfl rfl) (by decide) ?_
      refine VL.gy rfl rfl (q_slen Tryd.underlying9 rfl) (by decide) ?_
      refine VL.gy rfl rfl (q_gtr rfl rfl) (by decide) ?_
      refine VL.q (q_pick_f rfl rfl) (by decide) ?_
      refine VL.q (q_move rfl) (by decide) ?_
      refine VL.split_dec 14 rfl (fun h14 => ?_) (fun h14 => ?_)
      ·
        replace hS := it_t h14 hS
        refine VL.gn rfl rfl rfl (by decide) ?_
        refine VL.gn rfl rfl rfl (by decide) ?_
        refine VL.gn rfl rfl rfl (by decide) ?_
        refine VL.gn rfl rfl rfl (by decide) ?_
        refine VL.q (q_pick_t rfl rfl) (by decide) ?_
        refine VL.q (q_move rfl) (by decide) ?_
        refine VL.gn rfl rfl rfl (by decide) ?_
        refine VL.gn rfl rfl rfl (by decide) ?_
        refine VL.gn rfl rfl rfl (by decide) ?_
        refine VL.gn rfl rfl rfl (by decide) ?_
        refine VL.q (q_pick_t rfl rfl) (by decide) ?_
        refine VL.mt true [1, 25] (fun _ _ h => h) hS rfl
      ·
        replace hS := it_f h14 hS
        refine VL.gy rfl rfl (q_field gfa62_3 rfl) (by decide) ?_
        refine VL.gy rfl rfl (q_fe gone9 rfl rfl) (by decide) ?_
        refine VL.gy rfl rfl (q_slen Tryd.underlying9 rfl) (by decide) ?_
        refine VL.gy rfl rfl (q_gtr rfl rfl) (by decide) ?_
        refine VL.q (q_pick_f rfl rfl) (by decide) ?_
        refine VL.q (q_move rfl) (by decide) ?_
        refine VL.split_dec 20 rfl (fun h20 => ?_) (fun h20 => ?_)
        ·
          replace hS := it_t h20 hS
          refine VL.gn rfl rfl rfl (by decide) ?_
          refine VL.gn rfl rfl rfl (by decide) ?_
          refine VL.gn rfl rfl rfl (by decide) ?_
          refine VL.gn rfl rfl rfl (by decide) ?_
          refine VL.q (q_pick_t rfl rfl) (by decide) ?_
          refine VL.mt true [1, 25] (fun _ _ h => h) hS rfl
        ·
          replace hS := it_f h20 hS
          refine VL.gy rfl rfl (q_field gfa62_5 rfl) (by decide) ?_
          refine VL.gy rfl rfl (q_fe gone22 rfl rfl) (by decide) ?_
          refine VL.gy rfl rfl (q_ln (s := c_0.todo) Tryd.underlying22 rfl) (by decide) ?_
          refine VL.gy rfl rfl (q_gtr rfl rfl) (by decide) ?_
          refine VL.q (q_pick_f rfl rfl) (by decide) ?_
          refine VL.mt (decide (40 < (c_0.todo.l.length : Int))) [1, 25] (fun _ _ h => h) hS rfl
  · -- from there
    clear hS
    rintro x25_2 hS
    show VC _ _ _ _ _ [(1, ptr b1_1 0), (25, .bool x25_2)] (Mo.and Mo.tt _) (Ow.star (Blk b1_1 [str c_0.verb, str c_0.name, i64 c_0.n, str c_0.text, .bool c_0.force, c_0.todo.val] 62) (Ow.emp))
    refine VC.cond rfl (fun h25 => ?_) (fun h25 => ?_)
    ·
      replace hS := it_t h25 hS
      refine VC.seq ?_
      refine VC.region ?_
      refine VL.q (q_assign rfl) (by decide) ?_
      refine VL.to (fun _ _ h => h) ?_
      cases hS
      exact VC.ret (fin1 (.inr rfl) rfl rfl () rfl trivial (fun _ _ => trivial) (fun _ _ => trivial))
    ·
      replace hS := it_b h25 hS
      refine VC.skip_to (fun _ _ h => h) ?_
      refine VC.seq ?_
      refine VC.seq ?_
      refine VC.region ?_
      refine VL.q (q_assign rfl) (by decide) ?_
      refine VL.to (fun _ _ h => h) ?_
      refine VC.block ?_
      refine VC.iter (S := Int) (fun (i3_4 : Int) => i3_4) (fun (i3_4 : Int) => [(1, ptr b1_1 0), (3, i64 i3_4)]) (fun (i3_4 : Int) => Mo.tt) (fun (i3_4 : Int) => Ow.star (Blk b1_1 [str c_0.verb, str c_0.name, i64 c_0.n, str c_0.text, .bool c_0.force, c_0.todo.val] 62) (Ow.emp)) 0 [1, 3] hS rfl ?_
      clear hS
      rintro i3_4 m1 y1 hS hK1
      show VC _ _ _ _ _ [(1, ptr b1_1 0), (3, i64 i3_4)] (Mo.and Mo.tt _) (Ow.star (Blk b1_1 [str c_0.verb, str c_0.name, i64 c_0.n, str c_0.text, .bool c_0.force, c_0.todo.val] 62) (Ow.emp))
      refine VC.seq ?_
      refine VC.seq ?_
      refine VC.region ?_
      refine VL.q (q_move rfl) (by decide) ?_
      refine VL.q (q_field gfa62_5 rfl) (by decide) ?_
      refine VL.q (q_fe gone22 rfl rfl) (by decide) ?_
      refine VL.q (q_ln (s := c_0.todo) Tryd.underlying22 rfl) (by decide) ?_
      refine VL.q (q_lss rfl rfl) (by decide) ?_
      refine VL.to (fun _ _ h => h) ?_
      refine VC.cond_dec rfl (fun h30 => ?_) (fun h30 => ?_)
      ·
        replace hS := it_t h30 hS
        refine VC.skip_to (fun _ _ h => h) ?_
        refine VC.seq ?_
        refine VC.block ?_
        refine VC.cutJ (S := Bool) (fun (x50_5 : Bool) => x50_5) (fun (x50_5 : Bool) => [(1, ptr b1_1 0), (3, i64 i3_4), (50, .bool x50_5)]) (fun (x50_5 : Bool) => Mo.tt) (fun (x50_5 : Bool) => Ow.star (Blk b1_1 [str c_0.verb, str c_0.name, i64 c_0.n, str c_0.text, .bool c_0.force, c_0.todo.val] 62) (Ow.emp)) hS ?_ ?_
        · -- up to where ways meet
          clear hS
          intro k6 hS
          refine VC.region ?_
          refine VL.q (q_field gfa62_5 rfl) (by decide) ?_
          refine VL.q (q_fe gone22 rfl rfl) (by decide) ?_
          refine VL.q (q_move rfl) (by decide) ?_
          obtain ⟨z36_7, nz36_7, hz36_7, hS⟩ := at_s hS
          refine VL.q (q_ixm (s := c_0.todo) Tryd.underlying22 gsz26 rfl rfl nz36_7 (lt_of_get nz36_7 hz36_7)) (by decide) ?_
          refine VL.q (q_field gfa26_2 rfl) (by decide) ?_
          refine VL.q (q_elf (s := c_0.todo) gone9 rfl hz36_7 rfl) (by decide) ?_
          refine VL.q (q_slen Tryd.underlying9 rfl) (by decide) ?_
          refine VL.q (q_gtr rfl rfl) (by decide) ?_
          refine VL.q (q_move rfl) (by decide) ?_
          refine VL.split_dec 41 rfl (fun h41 => ?_) (fun h41 => ?_)
          ·
            replace hS := it_t h41 hS
            refine VL.gn rfl rfl rfl (by decide) ?_
            refine VL.gn rfl rfl rfl (by decide) ?_
            refine VL.gn rfl rfl rfl (by decide) ?_
            refine VL.gn rfl rfl rfl (by decide) ?_
            refine VL.gn rfl rfl rfl (by decide) ?_
            refine VL.gn rfl rfl rfl (by decide) ?_
            refine VL.gn rfl rfl rfl (by decide) ?_
            refine VL.gn rfl rfl rfl (by decide) ?_
            refine VL.q (q_pick_t rfl rfl) (by decide) ?_
            refine VL.mt true [1, 3, 50] (fun _ _ h => h) hS rfl
          ·
            replace hS := it_f h41 hS
            refine VL.gy rfl rfl (q_field gfa62_5 rfl) (by decide) ?_
            refine VL.gy rfl rfl (q_fe gone22 rfl rfl) (by decide) ?_
            refine VL.gy rfl rfl (q_move rfl) (by decide) ?_
            obtain ⟨z45_8, nz45_8, hz45_8, hS⟩ := at_s hS
            refine VL.gy rfl rfl (q_ixm (s := c_0.todo) Tryd.underlying22 gsz26 rfl rfl nz45_8 (lt_of_get nz45_8 hz45_8)) (by decide) ?_
            refine VL.gy rfl rfl (q_field gfa26_0 rfl) (by decide) ?_
            refine VL.gy rfl rfl (q_elf (s := c_0.todo) gone9 rfl hz45_8 rfl) (by decide) ?_
            refine VL.gy rfl rfl (q_slen Tryd.underlying9 rfl) (by decide) ?_
            refine VL.gy rfl rfl (q_gtr rfl rfl) (by decide) ?_
            refine VL.q (q_pick_f rfl rfl) (by decide) ?_
            refine VL.mt (decide (50 < (z45_8.verb.length : Int))) [1, 3, 50] (fun _ _ h => h) hS rfl
        · -- from there
          clear hS
          rintro x50_5 hS
          show VC _ _ _ _ _ [(1, ptr b1_1 0), (3, i64 i3_4), (50, .bool x50_5)] (Mo.and Mo.tt _) (Ow.star (Blk b1_1 [str c_0.verb, str c_0.name, i64 c_0.n, str c_0.text, .bool c_0.force, c_0.todo.val] 62) (Ow.emp))
          refine VC.cond rfl (fun h50 => ?_) (fun h50 => ?_)
          ·
            replace hS := it_t h50 hS
            refine VC.seq ?_
            refine VC.region ?_
            refine VL.q (q_assign rfl) (by decide) ?_
            refine VL.to (fun _ _ h => h) ?_
            replace hS := up2 hS hK1
            cases hS
            exact VC.ret (fin1 (.inr rfl) rfl rfl () rfl trivial (fun _ _ => trivial) (fun _ _ => trivial))
          ·
            replace hS := it_b h50 hS
            refine VC.skip_to (fun _ _ h => h) ?_
            refine VC.region ?_
            refine VL.q (q_move rfl) (by decide) ?_
            obtain ⟨b32, hS⟩ := gd_s hS
            refine VL.q (q_add rfl rfl b32) (by decide) ?_
            refine VL.q (q_assign rfl) (by decide) ?_
            refine VL.rnd (i3_4 + 1) [1, 3] (fun _ _ h => h) (go2 hS hK1) rfl
      ·
        replace hS := it_f h30 hS
        replace hS := up2 hS hK1
        refine VC.exit_to (fun _ _ h => h) ?_
        refine VC.seq ?_
        refine VC.region ?_
        refine VL.q (q_assign rfl) (by decide) ?_
        refine VL.to (fun _ _ h => h) ?_
        cases hS
        exact VC.ret (fin1 (.inr rfl) rfl rfl () rfl trivial (fun _ _ => trivial) (fun _ _ => trivial))

set_option maxHeartbeats 4000000 in
set_option maxRecDepth 100000 in
theorem rectolaw21_Of_ct (l_0 : Sv TodoStep) {r : List Rectoref17Step} (hS : Sh.rectolaw21_Of l_0.l = some r) :
    Ct Tryd.prog 70 [l_0.val] l_0.ok (Ow.emp) (X := Sv Rectoref17Step) (fun x => x.val) (fun x => r = x.l) (fun x => Mo.tt) (fun x => Sv.own x 119) := by
  refine Ct.of Tryd.func70 rfl (by kernel_rfl) Tryd.ntmps70 (by simp) fun c => ?_
  unfold Sh.rectolaw21_Of at hS
  refine VC.seq ?_
  refine VC.region ?_
  refine VL.q (q_assign rfl) (by decide) ?_
  refine VL.to (fun _ _ h => h) ?_
  refine VC.seq ?_
  refine VC.region ?_
  refine VL.q (q_assign rfl) (by decide) ?_
  refine VL.to (fun _ _ h => h) ?_
  refine VC.seq ?_
  refine VC.seq ?_
  refine VC.region ?_
  refine VL.q (q_assign rfl) (by decide) ?_
  refine VL.to (fun _ _ h => h) ?_
  refine VC.block ?_
  refine VC.nilO (⟨none, 0, []⟩ : Sv Rectoref17Step) 119 ⟨rfl, rfl⟩ ?_
  refine VC.iter (S := Sv Rectoref17Step × Int) (fun sg => (sg.1.l, sg.2)) (fun sg => [(0, l_0.val), (3, sg.1.val), (4, i64 sg.2)]) (fun sg => Mo.tt) (fun sg => Ow.star (Sv.own sg.1 119) (Ow.emp)) (⟨none, 0, []⟩, 0) [0, 3, 4] hS rfl ?_
  clear hS
  rintro ⟨out3_1, i4_2⟩ m1 y1 hS hK1
  show VC _ _ _ _ _ [(0, l_0.val), (3, out3_1.val), (4, i64 i4_2)] (Mo.and Mo.tt _) (Ow.star (Sv.own out3_1 119) (Ow.emp))
  refine VC.seq ?_
  refine VC.seq ?_
  refine VC.region ?_
  refine VL.q (q_move rfl) (by decide) ?_
  refine VL.q (q_move rfl) (by decide) ?_
  refine VL.q (q_ln (s := l_0) Tryd.underlying22 rfl) (by decide) ?_
  refine VL.q (q_lss rfl rfl) (by decide) ?_
  refine VL.to (fun _ _ h => h) ?_
  refine VC.cond_dec rfl (fun h8 => ?_) (fun h8 => ?_)
  ·
    replace hS := it_t h8 hS
    refine VC.skip_to (fun _ _ h => h) ?_
    refine VC.seq ?_
    refine VC.block ?_
    refine VC.draw [(0, true), (1, true), (2, true), (3, true), (4, true), (5, true), (6, true), (7, true), (8, true), (9, true), (10, true), (11, true), (12, true), (13, true), (14, true), (15, true), (16, true), (17, false), (18, false), (19, true)] mixed (by kernel_rfl) (by kernel_rfl) (by kernel_rfl) ?_
    refine VD.q rfl (q_move rfl) (by decide) ?_
    refine VD.q rfl (q_move rfl) (by decide) ?_
    refine VD.q rfl (q_move rfl) (by decide) ?_
    obtain ⟨z14_3, nz14_3, hz14_3, hS⟩ := at_s hS
    refine VD.q rfl (q_ixm (s := l_0) Tryd.underlying22 gsz26 rfl rfl nz14_3 (lt_of_get nz14_3 hz14_3)) (by decide) ?_
    refine VD.q rfl (q_field gfa26_0 rfl) (by decide) ?_
    refine VD.q rfl (q_elf (s := l_0) gone9 rfl hz14_3 rfl) (by decide) ?_
    refine VD.q rfl (q_move rfl) (by decide) ?_
    refine VD.q rfl (q_move rfl) (by decide) ?_
    obtain ⟨z19_4, nz19_4, hz19_4, hS⟩ := at_s hS
    refine VD.q rfl (q_ixm (s := l_0) Tryd.underlying22 gsz26 rfl rfl nz19_4 (lt_of_get nz19_4 hz19_4)) (by decide) ?_
    refine VD.q rfl (q_field gfa26_1 rfl) (by decide) ?_
    refine VD.q rfl (q_elf (s := l_0) gone3 rfl hz19_4 rfl) (by decide) ?_
    refine VD.q rfl (q_move rfl) (by decide) ?_
    refine VD.q rfl (q_move rfl) (by decide) ?_
    obtain ⟨z24_5, nz24_5, hz24_5, hS⟩ := at_s hS
    refine VD.q rfl (q_ixm (s := l_0) Tryd.underlying22 gsz26 rfl rfl nz24_5 (lt_of_get nz24_5 hz24_5)) (by decide) ?_
    refine VD.q rfl (q_field gfa26_2 rfl) (by decide) ?_
    refine VD.q rfl (q_elf (s := l_0) gone9 rfl hz24_5 rfl) (by decide) ?_
    refine VD.q rfl (q_build (vs := [(0, str z14_3.verb), (1, i64 z19_4.commit), (2, str z24_5.text)]) (cs := #[str z14_3.verb, i64 z19_4.commit, str z24_5.text]) rfl (by kernel_rfl)) (by decide) ?_
    refine VD.one rfl ?_
    refine VL.lit (α := Rectoref17Step) (xs := [.tmp 27]) (vs := [.agg #[str z14_3.verb, i64 z19_4.commit, str z24_5.text]]) [⟨z14_3.verb, z19_4.commit, z24_5.text⟩] Tryd.underlying66 glit119 (by decide) rfl rfl rfl rfl (by decide) (fun _ _ _ _ => trivial) (by decide) (fun s28_6 hs28_6 => ?_) (by decide)
    replace hS := lt_to hs28_6 hS
    refine VL.back (D' := []) (by kernel_rfl) (Pend.nil) ?_
    refine VD.one rfl ?_
    obtain ⟨b29, hS⟩ := gd_s hS
    refine VL.app (s := out3_1) (r := s28_6) Tryd.underlying66 gapp119 (by decide) rfl Fo.out (ap1 b29) (ap2 b29 (by decide)) (by decide) (fun s29_8 hs29_8 => ?_)
    replace hS := lt_to hs29_8 hS
    refine VL.back (D' := []) (by kernel_rfl) (Pend.nil) ?_
    refine VD.q rfl (q_assign rfl) (by decide) ?_
    refine VD.to (fun _ _ h => h) ?_
    refine VC.keep [0, 3, 4] rfl ?_
    refine VC.region ?_
    refine VL.q (q_move rfl) (by decide) ?_
    obtain ⟨b10, hS⟩ := gd_s hS
    refine VL.q (q_add rfl rfl b10) (by decide) ?_
    refine VL.q (q_assign rfl) (by decide) ?_
    refine VL.rnd (s29_8, (i4_2 + 1)) [0, 3, 4] (fun _ _ h => h) (go2 hS hK1) rfl
  ·
    replace hS := it_f h8 hS
    replace hS := up2 hS hK1
    refine VC.exit_to (fun _ _ h => h) ?_
    refine VC.seq ?_
    refine VC.region ?_
    refine VL.q (q_move rfl) (by decide) ?_
    refine VL.q (q_assign rfl) (by decide) ?_
    refine VL.to (fun _ _ h => h) ?_
    cases hS
    exact VC.ret (fin1 (.inr rfl) rfl rfl out3_1 rfl rfl (by (try dsimp only); exact InM.out) (by (try dsimp only); exact EntO.out))

set_option maxHeartbeats 4000000 in
set_option maxRecDepth 100000 in
theorem rectolaw22_Of_ct (c_0 : CmdCmd) {r : Rectoref17CmdP} (hS : Sh.rectolaw22_Of c_0.pl = some r) :
    Ct Tryd.prog 34 [.agg #[str c_0.verb, str c_0.name, i64 c_0.n, str c_0.text, .bool c_0.force, c_0.todo.val]] c_0.todo.ok (Ow.emp) (X := Rectoref17Cmd) (fun x => .agg (Dat.enc x).toArray) (fun x => r = x.pl) (fun x => x.m) (fun x => Ow.emp) := by
  refine Ct.of Tryd.func34 rfl (by kernel_rfl) Tryd.ntmps34 (by simp) fun c => ?_
  unfold Sh.rectolaw22_Of at hS
  refine VC.seq ?_
  refine VC.region ?_
  refine VL.box (cs := [str c_0.verb, str c_0.name, i64 c_0.n, str c_0.text, .bool c_0.force, c_0.todo.val]) rfl rfl (by decide) fun b1_1 => ?_
  refine VL.alloc (cs := [str [], str [], i64 0, str [], .bool false, .slice none 0 0]) (by kernel_rfl) (by decide) fun b2_2 => ?_
  refine VL.to (fun _ _ h => h) ?_
  refine VC.seq ?_
  refine VC.draw [(0, true), (1, true), (2, true), (3, true), (4, true), (5, true), (6, true), (7, true), (8, true), (9, true), (10, true), (11, true), (12, false), (13, true), (14, false)] mixed (by kernel_rfl) (by kernel_rfl) (by kernel_rfl) ?_
  refine VD.q rfl (q_field gfa62_0 rfl) (by decide) ?_
  refine VD.q rfl (q_fe gone9 rfl rfl) (by decide) ?_
  refine VD.q rfl (q_field gfa62_1 rfl) (by decide) ?_
  refine VD.q rfl (q_fe gone9 rfl rfl) (by decide) ?_
  refine VD.q rfl (q_field gfa62_2 rfl) (by decide) ?_
  refine VD.q rfl (q_fe gone3 rfl rfl) (by decide) ?_
  refine VD.q rfl (q_field gfa62_3 rfl) (by decide) ?_
  refine VD.q rfl (q_fe gone9 rfl rfl) (by decide) ?_
  refine VD.q rfl (q_field gfa62_4 rfl) (by decide) ?_
  refine VD.q rfl (q_fe gone4 rfl rfl) (by decide) ?_
  refine VD.q rfl (q_field gfa62_5 rfl) (by decide) ?_
  refine VD.q rfl (q_fe gone22 rfl rfl) (by decide) ?_
  refine VD.one rfl ?_
  obtain ⟨y15_3, ey15_3, hS⟩ := bd_s hS
  refine VL.callO (rectolaw21_Of_ct c_0.todo ey15_3) rfl (by decide) ?_
  rintro q15_3_0 rfl
  try dsimp only
  refine VL.back (D' := [(9, .bool c_0.force), (8, ptr b1_1 4), (7, str c_0.text), (6, ptr b1_1 3), (5, i64 c_0.n), (4, ptr b1_1 2), (3, str c_0.name), (2, ptr b1_1 1), (1, str c_0.verb), (0, ptr b1_1 0)]) (by kernel_rfl) (Pend.cons rfl (q_fe gone4 rfl rfl) (Pend.cons rfl (q_field gfa62_4 rfl) (Pend.cons rfl (q_fe gone9 rfl rfl) (Pend.cons rfl (q_field gfa62_3 rfl) (Pend.cons rfl (q_fe gone3 rfl rfl) (Pend.cons rfl (q_field gfa62_2 rfl) (Pend.cons rfl (q_fe gone9 rfl rfl) (Pend.cons rfl (q_field gfa62_1 rfl) (Pend.cons rfl (q_fe gone9 rfl rfl) (Pend.cons rfl (q_field gfa62_0 rfl) (Pend.nil))))))))))) ?_
  refine VD.q rfl (q_build (vs := [(0, str c_0.verb), (1, str c_0.name), (2, i64 c_0.n), (3, str c_0.text), (4, .bool c_0.force), (5, q15_3_0.val)]) (cs := #[str c_0.verb, str c_0.name, i64 c_0.n, str c_0.text, .bool c_0.force, q15_3_0.val]) rfl (by kernel_rfl)) (by decide) ?_
  refine VD.one rfl ?_
  refine VL.store (vc := [str c_0.verb, str c_0.name, i64 c_0.n, str c_0.text, .bool c_0.force, q15_3_0.val]) (cs' := [str c_0.verb, str c_0.name, i64 c_0.n, str c_0.text, .bool c_0.force, q15_3_0.val]) rfl rfl rfl gsz68 rfl rfl (Nat.le_of_ble_eq_true rfl) rfl ?_
  refine VL.back (D' := []) (by kernel_rfl) (Pend.nil) ?_
  refine VD.to (fun _ _ h => h) ?_
  refine VC.keep [2] rfl ?_
  refine VC.shut q15_3_0 119 (fun _ _ _ _ => trivial) ?_
  cases hS
  exact VC.ret (finG (vs := [.agg #[str c_0.verb, str c_0.name, i64 c_0.n, str c_0.text, .bool c_0.force, q15_3_0.val]]) (.inr rfl) rfl (RVs.cell gagg68 rfl rfl Rd.blk (RVs.nil)) ⟨c_0.verb, c_0.name, c_0.n, c_0.text, c_0.force, q15_3_0⟩ rfl rfl (by (try dsimp only); exact InM.out) (fun _ _ => trivial))

set_option maxHeartbeats 4000000 in
set_option maxRecDepth 100000 in
theorem rectoref17_Same_ct (a_0 : Rectoref17Cmd) (a_1 : Rectoref17Cmd) {r : Bool} (hS : Sh.rectoref17_Same a_0.pl a_1.pl = some r) :
    Ct Tryd.prog 33 [.agg #[str a_0.verb, str a_0.name, i64 a_0.n, str a_0.text, .bool a_0.force, a_0.todo.val], .agg #[str a_1.verb, str a_1.name, i64 a_1.n, str a_1.text, .bool a_1.force, a_1.todo.val]] (a_0.todo.ok.and a_1.todo.ok) (Ow.emp) (X := Unit) (fun _ => .bool r) (fun _ => True) (fun _ => Mo.tt) (fun _ => Ow.emp) := by
  refine Ct.of Tryd.func33 rfl (by kernel_rfl) Tryd.ntmps33 (by simp) fun c => ?_
  unfold Sh.rectoref17_Same at hS
  refine VC.seq ?_
  refine VC.region ?_
  refine VL.box (cs := [str a_0.verb, str a_0.name, i64 a_0.n, str a_0.text, .bool a_0.force, a_0.todo.val]) rfl rfl (by decide) fun b2_1 => ?_
  refine VL.box (cs := [str a_1.verb, str a_1.name, i64 a_1.n, str a_1.text, .bool a_1.force, a_1.todo.val]) rfl rfl (by decide) fun b3_2 => ?_
  refine VL.q (q_assign rfl) (by decide) ?_
  refine VL.to (fun _ _ h => h) ?_
  refine VC.seq ?_
  refine VC.cutJ (S := Bool) (fun (x47_3 : Bool) => x47_3) (fun (x47_3 : Bool) => [(2, ptr b2_1 0), (3, ptr b3_2 0), (47, .bool x47_3)]) (fun (x47_3 : Bool) => Mo.tt) (fun (x47_3 : Bool) => Ow.star (Blk b3_2 [str a_1.verb, str a_1.name, i64 a_1.n, str a_1.text, .bool a_1.force, a_1.todo.val] 68) (Ow.star (Blk b2_1 [str a_0.verb, str a_0.name, i64 a_0.n, str a_0.text, .bool a_0.force, a_0.todo.val] 68) (Ow.emp))) hS ?_ ?_
  · -- up to where ways meet
    clear hS
    intro k4 hS
    refine VC.region ?_
    refine VL.q (q_field gfa68_0 rfl) (by decide) ?_
    refine VL.q (q_fe gone9 rfl rfl) (by decide) ?_
    refine VL.q (q_field gfa68_0 rfl) (by decide) ?_
    refine VL.q (q_fe gone9 rfl rfl) (by decide) ?_
    refine VL.q (q_sne rfl rfl) (by decide) ?_
    refine VL.q (q_move rfl) (by decide) ?_
    refine VL.split_ndec 11 rfl (fun h11 => ?_) (fun h11 => ?_)
    ·
      replace hS := it_f h11 hS
      refine VL.gn rfl rfl rfl (by decide) ?_
      refine VL.gn rfl rfl rfl (by decide) ?_
      refine VL.gn rfl rfl rfl (by decide) ?_
      refine VL.gn rfl rfl rfl (by decide) ?_
      refine VL.gn rfl rfl rfl (by decide) ?_
      refine VL.q (q_pick_t rfl rfl) (by decide) ?_
      refine VL.q (q_move rfl) (by decide) ?_
      refine VL.gn rfl rfl rfl (by decide) ?_
      refine VL.gn rfl rfl rfl (by decide) ?_
      refine VL.gn rfl rfl rfl (by decide) ?_
      refine VL.gn rfl rfl rfl (by decide) ?_
      refine VL.gn rfl rfl rfl (by decide) ?_
      refine VL.q (q_pick_t rfl rfl) (by decide) ?_
      refine VL.q (q_move rfl) (by decide) ?_
      refine VL.gn rfl rfl rfl (by decide) ?_
      refine VL.gn rfl rfl rfl (by decide) ?_
      refine VL.gn rfl rfl rfl (by decide) ?_
      refine VL.gn rfl rfl rfl (by decide) ?_
      refine VL.gn rfl rfl rfl (by decide) ?_
      refine VL.q (q_pick_t rfl rfl) (by decide) ?_
      refine VL.q (q_move rfl) (by decide) ?_
      refine VL.gn rfl rfl rfl (by decide) ?_
      refine VL.gn rfl rfl rfl (by decide) ?_
      refine VL.gn rfl rfl rfl (by decide) ?_
      refine VL.gn rfl rfl rfl (by decide) ?_
      refine VL.gn rfl rfl rfl (by decide) ?_
      refine VL.q (q_pick_t rfl rfl) (by decide) ?_
      refine VL.q (q_move rfl) (by decide) ?_
      refine VL.gn rfl rfl rfl (by decide) ?_
      refine VL.gn rfl rfl rfl (by decide) ?_
      refine VL.gn rfl rfl rfl (by decide) ?_
      refine VL.gn rfl rfl rfl (by decide) ?_
      refine VL.gn rfl rfl rfl (by decide) ?_
      refine VL.gn rfl rfl rfl (by decide) ?_
      refine VL.gn rfl rfl rfl (by decide) ?_
      refine VL.q (q_pick_t rfl rfl) (by decide) ?_
      refine VL.mt true [2, 3, 47] (fun _ _ h => h) hS rfl
    ·
      replace hS := it_t h11 hS
      refine VL.gy rfl rfl (q_field gfa68_1 rfl) (by decide) ?_
      refine VL.gy rfl rfl (q_fe gone9 rfl rfl) (by decide) ?_
      refine VL.gy rfl rfl (q_field gfa68_1 rfl) (by decide) ?_
      refine VL.gy rfl rfl (q_fe gone9 rfl rfl) (by decide) ?_
      refine VL.gy rfl rfl (q_sne rfl rfl) (by decide) ?_
      refine VL.q (q_pick_f rfl rfl) (by decide) ?_
      refine VL.q (q_move rfl) (by decide) ?_
      refine VL.split_ndec 18 rfl (fun h18 => ?_) (fun h18 => ?_)
      ·
        replace hS := it_f h18 hS
        refine VL.gn rfl rfl rfl (by decide) ?_
        refine VL.gn rfl rfl rfl (by decide) ?_
        refine VL.gn rfl rfl rfl (by decide) ?_
        refine VL.gn rfl rfl rfl (by decide) ?_
        refine VL.gn rfl rfl rfl (by decide) ?_
        refine VL.q (q_pick_t rfl rfl) (by decide) ?_
        refine VL.q (q_move rfl) (by decide) ?_
        refine VL.gn rfl rfl rfl (by decide) ?_
        refine VL.gn rfl rfl rfl (by decide) ?_
        refine VL.gn rfl rfl rfl (by decide) ?_
        refine VL.gn rfl rfl rfl (by decide) ?_
        refine VL.gn rfl rfl rfl (by decide) ?_
        refine VL.q (q_pick_t rfl rfl) (by decide) ?_
        refine VL.q (q_move rfl) (by decide) ?_
        refine VL.gn rfl rfl rfl (by decide) ?_
        refine VL.gn rfl rfl rfl (by decide) ?_
        refine VL.gn rfl rfl rfl (by decide) ?_
        refine VL.gn rfl rfl rfl (by decide) ?_
        refine VL.gn rfl rfl rfl (by decide) ?_
        refine VL.q (q_pick_t rfl rfl) (by decide) ?_
        refine VL.q (q_move rfl) (by decide) ?_
        refine VL.gn rfl rfl rfl (by decide) ?_
        refine VL.gn rfl rfl rfl (by decide) ?_
        refine VL.gn rfl rfl rfl (by decide) ?_
        refine VL.gn rfl rfl rfl (by decide) ?_
        refine VL.gn rfl rfl rfl (by decide) ?_
        refine VL.gn rfl rfl rfl (by decide) ?_
        refine VL.gn rfl rfl rfl (by decide) ?_
        refine VL.q (q_pick_t rfl rfl) (by decide) ?_
        refine VL.mt true [2, 3, 47] (fun _ _ h => h) hS rfl
      ·
        replace hS := it_t h18 hS
        refine VL.gy rfl rfl (q_field gfa68_2 rfl) (by decide) ?_
        refine VL.gy rfl rfl (q_fe gone3 rfl rfl) (by decide) ?_
        refine VL.gy rfl rfl (q_field gfa68_2 rfl) (by decide) ?_
        refine VL.gy rfl rfl (q_fe gone3 rfl rfl) (by decide) ?_
        refine VL.gy rfl rfl (q_neq rfl rfl) (by decide) ?_
        refine VL.q (q_pick_f rfl rfl) (by decide) ?_
        refine VL.q (q_move rfl) (by decide) ?_
        refine VL.split_ndec 25 rfl (fun h25 => ?_) (fun h25 => ?_)
        ·
          replace hS := it_f h25 hS
          refine VL.gn rfl rfl rfl (by decide) ?_
          refine VL.gn rfl rfl rfl (by decide) ?_
          refine VL.gn rfl rfl rfl (by decide) ?_
          refine VL.gn rfl rfl rfl (by decide) ?_
          refine VL.gn rfl rfl rfl (by decide) ?_
          refine VL.q (q_pick_t rfl rfl) (by decide) ?_
          refine VL.q (q_move rfl) (by decide) ?_
          refine VL.gn rfl rfl rfl (by decide) ?_
          refine VL.gn rfl rfl rfl (by decide) ?_
          refine VL.gn rfl rfl rfl (by decide) ?_
          refine VL.gn rfl rfl rfl (by decide) ?_
          refine VL.gn rfl rfl rfl (by decide) ?_
          refine VL.q (q_pick_t rfl rfl) (by decide) ?_
          refine VL.q (q_move rfl) (by decide) ?_
          refine VL.gn rfl rfl rfl (by decide) ?_
          refine VL.gn rfl rfl rfl (by decide) ?_
          refine VL.gn rfl rfl rfl (by decide) ?_
          refine VL.gn rfl rfl rfl (by decide) ?_
          refine VL.gn rfl rfl rfl (by decide) ?_
          refine VL.gn rfl rfl rfl (by decide) ?_
          refine VL.gn rfl rfl rfl (by decide) ?_
          refine VL.q (q_pick_t rfl rfl) (by decide) ?_
          refine VL.mt true [2, 3, 47] (fun _ _ h => h) hS rfl
        ·
          replace hS := it_t h25 hS
          refine VL.gy rfl rfl (q_field gfa68_3 rfl) (by decide) ?_
          refine VL.gy rfl rfl (q_fe gone9 rfl rfl) (by decide) ?_
          refine VL.gy rfl rfl (q_field gfa68_3 rfl) (by decide) ?_
          refine VL.gy rfl rfl (q_fe gone9 rfl rfl) (by decide) ?_
          refine VL.gy rfl rfl (q_sne rfl rfl) (by decide) ?_
          refine VL.q (q_pick_f rfl rfl) (by decide) ?_
          refine VL.q (q_move rfl) (by decide) ?_
          refine VL.split_ndec 32 rfl (fun h32 => ?_) (fun h32 => ?_)
          ·
            replace hS := it_f h32 hS
            refine VL.gn rfl rfl rfl (by decide) ?_
            refine VL.gn rfl rfl rfl (by decide) ?_
            refine VL.gn rfl rfl rfl (by decide) ?_
            refine VL.gn rfl rfl rfl (by decide) ?_
            refine VL.gn rfl rfl rfl (by decide) ?_
            refine VL.q (q_pick_t rfl rfl) (by decide) ?_
            refine VL.q (q_move rfl) (by decide) ?_
            refine VL.gn rfl rfl rfl (by decide) ?_
            refine VL.gn rfl rfl rfl (by decide) ?_
            refine VL.gn rfl rfl rfl (by decide) ?_
            refine VL.gn rfl rfl rfl (by decide) ?_
            refine VL.gn rfl rfl rfl (by decide) ?_
            refine VL.gn rfl rfl rfl (by decide) ?_
            refine VL.gn rfl rfl rfl (by decide) ?_
            refine VL.q (q_pick_t rfl rfl) (by decide) ?_
            refine VL.mt true [2, 3, 47] (fun _ _ h => h) hS rfl
          ·
            replace hS := it_t h32 hS
            refine VL.gy rfl rfl (q_field gfa68_4 rfl) (by decide) ?_
            refine VL.gy rfl rfl (q_fe gone4 rfl rfl) (by decide) ?_
            refine VL.gy rfl rfl (q_field gfa68_4 rfl) (by decide) ?_
            refine VL.gy rfl rfl (q_fe gone4 rfl rfl) (by decide) ?_
            refine VL.gy rfl rfl (q_bneq Tryd.underlying4 rfl rfl) (by decide) ?_
            refine VL.q (q_pick_f rfl rfl) (by decide) ?_
            refine VL.q (q_move rfl) (by decide) ?_
            refine VL.split_ndec 39 rfl (fun h39 => ?_) (fun h39 => ?_)
            ·
              replace hS := it_f h39 hS
              refine VL.gn rfl rfl rfl (by decide) ?_
              refine VL.gn rfl rfl rfl (by decide) ?_
              refine VL.gn rfl rfl rfl (by decide) ?_
              refine VL.gn rfl rfl rfl (by decide) ?_
              refine VL.gn rfl rfl rfl (by decide) ?_
              refine VL.gn rfl rfl rfl (by decide) ?_
              refine VL.gn rfl rfl rfl (by decide) ?_
              refine VL.q (q_pick_t rfl rfl) (by decide) ?_
              refine VL.mt true [2, 3, 47] (fun _ _ h => h) hS rfl
            ·
              replace hS := it_t h39 hS
              refine VL.gy rfl rfl (q_field gfa68_5 rfl) (by decide) ?_
              refine VL.gy rfl rfl (q_fe gone66 rfl rfl) (by decide) ?_
              refine VL.gy rfl rfl (q_ln (s := a_0.todo) Tryd.underlying66 rfl) (by decide) ?_
              refine VL.gy rfl rfl (q_field gfa68_5 rfl) (by decide) ?_
              refine VL.gy rfl rfl (q_fe gone66 rfl rfl) (by decide) ?_
              refine VL.gy rfl rfl (q_ln (s := a_1.todo) Tryd.underlying66 rfl) (by decide) ?_
              refine VL.gy rfl rfl (q_neq rfl rfl) (by decide) ?_
              refine VL.q (q_pick_f rfl rfl) (by decide) ?_
              refine VL.mt (!decide ((a_0.todo.l.length : Int) = (a_1.todo.l.length : Int))) [2, 3, 47] (fun _ _ h => h) hS rfl
  · -- from there
    clear hS
    rintro x47_3 hS
    show VC _ _ _ _ _ [(2, ptr b2_1 0), (3, ptr b3_2 0), (47, .bool x47_3)] (Mo.and Mo.tt _) (Ow.star (Blk b3_2 [str a_1.verb, str a_1.name, i64 a_1.n, str a_1.text, .bool a_1.force, a_1.todo.val] 68) (Ow.star (Blk b2_1 [str a_0.verb, str a_0.name, i64 a_0.n, str a_0.text, .bool a_0.force, a_0.todo.val] 68) (Ow.emp)))
    refine VC.cond rfl (fun h47 => ?_) (fun h47 => ?_)
    ·
      replace hS := it_t h47 hS
      refine VC.seq ?_
      refine VC.region ?_
      refine VL.q (q_assign rfl) (by decide) ?_
      refine VL.to (fun _ _ h => h) ?_
      cases hS
      exact VC.ret (fin1 (.inr rfl) rfl rfl () rfl trivial (fun _ _ => trivial) (fun _ _ => trivial))
    ·
      replace hS := it_b h47 hS
      refine VC.skip_to (fun _ _ h => h) ?_
      refine VC.seq ?_
      refine VC.seq ?_
      refine VC.region ?_
      refine VL.q (q_assign rfl) (by decide) ?_
      refine VL.to (fun _ _ h => h) ?_
      refine VC.block ?_
      refine VC.iter (S := Int) (fun (x5_5 : Int) => x5_5) (fun (x5_5 : Int) => [(2, ptr b2_1 0), (3, ptr b3_2 0), (5, i64 x5_5)]) (fun (x5_5 : Int) => Mo.tt) (fun (x5_5 : Int) => Ow.star (Blk b3_2 [str a_1.verb, str a_1.name, i64 a_1.n, str a_1.text, .bool a_1.force, a_1.todo.val] 68) (Ow.star (Blk b2_1 [str a_0.verb, str a_0.name, i64 a_0.n, str a_0.text, .bool a_0.force, a_0.todo.val] 68) (Ow.emp))) 0 [2, 3, 5] hS rfl ?_
      clear hS
      rintro x5_5 m1 y1 hS hK1
      show VC _ _ _ _ _ [(2, ptr b2_1 0), (3, ptr b3_2 0), (5, i64 x5_5)] (Mo.and Mo.tt _) (Ow.star (Blk b3_2 [str a_1.verb, str a_1.name, i64 a_1.n, str a_1.text, .bool a_1.force, a_1.todo.val] 68) (Ow.star (Blk b2_1 [str a_0.verb, str a_0.name, i64 a_0.n, str a_0.text, .bool a_0.force, a_0.todo.val] 68) (Ow.emp)))
      refine VC.seq ?_
      refine VC.seq ?_
      refine VC.region ?_
      refine VL.q (q_move rfl) (by decide) ?_
      refine VL.q (q_field gfa68_5 rfl) (by decide) ?_
      refine VL.q (q_fe gone66 rfl rfl) (by decide) ?_
      refine VL.q (q_ln (s := a_0.todo) Tryd.underlying66 rfl) (by decide) ?_
      refine VL.q (q_lss rfl rfl) (by decide) ?_
      refine VL.to (fun _ _ h => h) ?_
      refine VC.cond_dec rfl (fun h52 => ?_) (fun h52 => ?_)
      ·
        replace hS := it_t h52 hS
        refine VC.skip_to (fun _ _ h => h) ?_
        refine VC.seq ?_
        refine VC.block ?_
        refine VC.seq ?_
        refine VC.draw ((List.range 11).map fun k => (k, true)) mixed (by kernel_rfl) (by kernel_rfl) (by kernel_rfl) ?_
        refine VD.q rfl (q_field gfa68_5 rfl) (by decide) ?_
        refine VD.q rfl (q_fe gone66 rfl rfl) (by decide) ?_
        refine VD.q rfl (q_move rfl) (by decide) ?_
        obtain ⟨z58_6, nz58_6, hz58_6, hS⟩ := at_s hS
        refine VD.q rfl (q_ixm (s := a_0.todo) Tryd.underlying66 gsz119 rfl rfl nz58_6 (lt_of_get nz58_6 hz58_6)) (by decide) ?_
        refine VD.q rfl (q_els (s := a_0.todo) gagg119 rfl rfl hz58_6) (by decide) ?_
        refine VD.q rfl (q_field gfa68_5 rfl) (by decide) ?_
        refine VD.q rfl (q_fe gone66 rfl rfl) (by decide) ?_
        refine VD.q rfl (q_move rfl) (by decide) ?_
        obtain ⟨z63_7, nz63_7, hz63_7, hS⟩ := at_s hS
        refine VD.q rfl (q_ixm (s := a_1.todo) Tryd.underlying66 gsz119 rfl rfl nz63_7 (lt_of_get nz63_7 hz63_7)) (by decide) ?_
        refine VD.q rfl (q_els (s := a_1.todo) gagg119 rfl rfl hz63_7) (by decide) ?_
        refine VD.q rfl (q_stneq geqg119 (geqs119 z58_6.verb z58_6.commit z58_6.text z63_7.verb z63_7.commit z63_7.text) rfl rfl) (by decide) ?_
        refine VD.to (fun _ _ h => h) ?_
        refine VC.keep [2, 3, 5, 65] rfl ?_
        refine VC.cond_ndec rfl (fun h65 => ?_) (fun h65 => ?_)
        ·
          replace hS := it_f h65 hS
          refine VC.seq ?_
          refine VC.region ?_
          refine VL.q (q_assign rfl) (by decide) ?_
          refine VL.to (fun _ _ h => h) ?_
          replace hS := up2 hS hK1
          cases hS
          exact VC.ret (fin1 (.inr rfl) rfl rfl () rfl trivial (fun _ _ => trivial) (fun _ _ => trivial))
        ·
          replace hS := it_t h65 hS
          refine VC.skip_to (fun _ _ h => h) ?_
          refine VC.region ?_
          refine VL.q (q_move rfl) (by decide) ?_
          obtain ⟨b54, hS⟩ := gd_s hS
          refine VL.q (q_add rfl rfl b54) (by decide) ?_
          refine VL.q (q_assign rfl) (by decide) ?_
          refine VL.rnd (x5_5 + 1) [2, 3, 5] (fun _ _ h => h) (go2 hS hK1) rfl
      ·
        replace hS := it_f h52 hS
        replace hS := up2 hS hK1
        refine VC.exit_to (fun _ _ h => h) ?_
        refine VC.seq ?_
        refine VC.region ?_
        refine VL.q (q_assign rfl) (by decide) ?_
        refine VL.to (fun _ _ h => h) ?_
        cases hS
        exact VC.ret (fin1 (.inr rfl) rfl rfl () rfl trivial (fun _ _ => trivial) (fun _ _ => trivial))

set_option maxHeartbeats 4000000 in
set_option maxRecDepth 100000 in
theorem rectolaw22_CmdTwo_ct (a_0 : CmdCmd) (b_1 : CmdCmd) {r : Bool} (hS : Sh.rectolaw22_CmdTwo a_0.pl b_1.pl = some r) :
    Ct Tryd.prog 7 [.agg #[str a_0.verb, str a_0.name, i64 a_0.n, str a_0.text, .bool a_0.force, a_0.todo.val], .agg #[str b_1.verb, str b_1.name, i64 b_1.n, str b_1.text, .bool b_1.force, b_1.todo.val]] (a_0.todo.ok.and (b_1.todo.ok.and Gl)) (Ow.emp) (X := Unit) (fun _ => .bool r) (fun _ => True) (fun _ => Mo.tt) (fun _ => Ow.emp) := by
  refine Ct.of Tryd.func7 rfl (by kernel_rfl) Tryd.ntmps7 (by simp) fun c => ?_
  unfold Sh.rectolaw22_CmdTwo at hS
  refine VC.seq ?_
  refine VC.region ?_
  refine VL.box (cs := [str a_0.verb, str a_0.name, i64 a_0.n, str a_0.text, .bool a_0.force, a_0.todo.val]) rfl rfl (by decide) fun b2_1 => ?_
  refine VL.box (cs := [str b_1.verb, str b_1.name, i64 b_1.n, str b_1.text, .bool b_1.force, b_1.todo.val]) rfl rfl (by decide) fun b3_2 => ?_
  refine VL.q (q_assign rfl) (by decide) ?_
  refine VL.to (fun _ _ h => h) ?_
  refine VC.seq ?_
  refine VC.seq ?_
  refine VC.region ?_
  obtain ⟨y6_3, ey6_3, hS⟩ := bd_s hS
  refine VL.q (q_call (rectolaw22_known_ct ey6_3) rfl (fun _ _ => rfl)) (by decide) ?_
  refine VL.q (q_not rfl) (by decide) ?_
  refine VL.to (fun _ _ h => h) ?_
  refine VC.cond rfl (fun h7 => ?_) (fun h7 => ?_)
  ·
    replace hS := it_t h7 hS
    refine VC.seq ?_
    refine VC.region ?_
    refine VL.q (q_assign rfl) (by decide) ?_
    refine VL.to (fun _ _ h => h) ?_
    cases hS
    exact VC.ret (fin1 (.inr rfl) rfl rfl () rfl trivial (fun _ _ => trivial) (fun _ _ => trivial))
  ·
    replace hS := it_b h7 hS
    refine VC.skip_to (fun _ _ h => h) ?_
    refine VC.seq ?_
    refine VC.cutJ (S := Bool) (fun (x15_4 : Bool) => x15_4) (fun (x15_4 : Bool) => [(2, ptr b2_1 0), (3, ptr b3_2 0), (15, .bool x15_4)]) (fun (x15_4 : Bool) => Mo.tt) (fun (x15_4 : Bool) => Ow.star (Blk b3_2 [str b_1.verb, str b_1.name, i64 b_1.n, str b_1.text, .bool b_1.force, b_1.todo.val] 62) (Ow.star (Blk b2_1 [str a_0.verb, str a_0.name, i64 a_0.n, str a_0.text, .bool a_0.force, a_0.todo.val] 62) (Ow.emp))) hS ?_ ?_
    · -- up to where ways meet
      clear hS
      intro k5 hS
      refine VC.region ?_
      refine VL.q (q_fes gagg62 rfl rfl) (by decide) ?_
      obtain ⟨y9_6, ey9_6, hS⟩ := bd_s hS
      refine VL.q (q_call (rectolaw22_Few_ct a_0 ey9_6) rfl (fun _ _ => rfl)) (by decide) ?_
      refine VL.q (q_not rfl) (by decide) ?_
      refine VL.q (q_move rfl) (by decide) ?_
      refine VL.split 11 rfl (fun h11 => ?_) (fun h11 => ?_)
      ·
        replace hS := it_t h11 hS
        refine VL.gn rfl rfl rfl (by decide) ?_
        refine VL.gn rfl rfl rfl (by decide) ?_
        refine VL.gn rfl rfl rfl (by decide) ?_
        refine VL.q (q_pick_t rfl rfl) (by decide) ?_
        refine VL.mt true [2, 3, 15] (fun _ _ h => h) hS rfl
      ·
        replace hS := it_b h11 hS
        refine VL.gy rfl rfl (q_fes gagg62 rfl rfl) (by decide) ?_
        obtain ⟨y13_7, ey13_7, hS⟩ := bd_s hS
        refine VL.gy rfl rfl (q_call (rectolaw22_Few_ct b_1 ey13_7) rfl (fun _ _ => rfl)) (by decide) ?_
        refine VL.gy rfl rfl (q_not rfl) (by decide) ?_
        refine VL.q (q_pick_f rfl rfl) (by decide) ?_
        refine VL.mt (!y13_7) [2, 3, 15] (fun _ _ h => h) hS rfl
    · -- from there
      clear hS
      rintro x15_4 hS
      show VC _ _ _ _ _ [(2, ptr b2_1 0), (3, ptr b3_2 0), (15, .bool x15_4)] (Mo.and Mo.tt _) (Ow.star (Blk b3_2 [str b_1.verb, str b_1.name, i64 b_1.n, str b_1.text, .bool b_1.force, b_1.todo.val] 62) (Ow.star (Blk b2_1 [str a_0.verb, str a_0.name, i64 a_0.n, str a_0.text, .bool a_0.force, a_0.todo.val] 62) (Ow.emp)))
      refine VC.cond rfl (fun h15 => ?_) (fun h15 => ?_)
      ·
        replace hS := it_t h15 hS
        refine VC.seq ?_
        refine VC.region ?_
        refine VL.q (q_assign rfl) (by decide) ?_
        refine VL.to (fun _ _ h => h) ?_
        cases hS
        exact VC.ret (fin1 (.inr rfl) rfl rfl () rfl trivial (fun _ _ => trivial) (fun _ _ => trivial))
      ·
        replace hS := it_b h15 hS
        refine VC.skip_to (fun _ _ h => h) ?_
        refine VC.seq ?_
        refine VC.region ?_
        refine VL.q (q_fes gagg62 rfl rfl) (by decide) ?_
        refine VL.q (q_fes gagg62 rfl rfl) (by decide) ?_
        obtain ⟨y18_8, ey18_8, hS⟩ := bd_s hS
        refine VL.q (q_call (cmd_Same_ct a_0 b_1 ey18_8) rfl (fun _ _ => rfl)) (by decide) ?_
        refine VL.q (q_assign rfl) (by decide) ?_
        refine VL.to (fun _ _ h => h) ?_
        refine VC.seq ?_
        refine VC.draw [(0, true), (1, true), (3, true), (2, false), (4, false), (5, true), (6, true), (7, true), (8, true), (9, true), (10, true), (11, true), (12, true), (13, true), (14, true)] mixed (by kernel_rfl) (by kernel_rfl) (by kernel_rfl) ?_
        refine VD.q rfl (q_move rfl) (by decide) ?_
        refine VD.q rfl (q_fes gagg62 rfl rfl) (by decide) ?_
        refine VD.q rfl (q_fes gagg62 rfl rfl) (by decide) ?_
        refine VD.one rfl ?_
        obtain ⟨y21_9, ey21_9, hS⟩ := bd_s hS
        refine VL.callF (rectolaw22_Of_ct a_0 ey21_9) rfl (by decide) ?_
        rintro q21_9_0 rfl
        try dsimp only
        refine VL.back (D' := [(3, .agg #[str b_1.verb, str b_1.name, i64 b_1.n, str b_1.text, .bool b_1.force, b_1.todo.val])]) (by kernel_rfl) (Pend.cons rfl (q_fes gagg62 rfl rfl) (Pend.nil)) ?_
        refine VD.one rfl ?_
        obtain ⟨y23_10, ey23_10, hS⟩ := bd_s hS
        refine VL.callF (rectolaw22_Of_ct b_1 ey23_10) rfl (by decide) ?_
        rintro q23_10_0 rfl
        try dsimp only
        refine VL.back (D' := []) (by kernel_rfl) (Pend.nil) ?_
        obtain ⟨y24_11, ey24_11, hS⟩ := bd_s hS
        refine VD.q rfl (q_call (rectoref17_Same_ct q21_9_0 q23_10_0 ey24_11) rfl (fun _ _ => rfl)) (by decide) ?_
        refine VD.q rfl (q_beql Tryd.underlying4 rfl rfl) (by decide) ?_
        refine VD.q rfl (q_move rfl) (by decide) ?_
        refine VD.split_dec 26 rfl (fun h26 => ?_) (fun h26 => ?_)
        ·
          replace hS := it_t h26 hS
          refine VD.gy rfl rfl rfl (q_move rfl) (by decide) ?_
          refine VD.gy rfl rfl rfl (q_fes gagg62 rfl rfl) (by decide) ?_
          refine VD.gy rfl rfl rfl (q_fes gagg62 rfl rfl) (by decide) ?_
          obtain ⟨y30_12, ey30_12, hS⟩ := bd_s hS
          refine VD.gy rfl rfl rfl (q_call (cmd_Same_ct b_1 a_0 ey30_12) rfl (fun _ _ => rfl)) (by decide) ?_
          refine VD.gy rfl rfl rfl (q_beql Tryd.underlying4 rfl rfl) (by decide) ?_
          refine VD.q rfl (q_pick_t rfl rfl) (by decide) ?_
          refine VD.q rfl (q_assign rfl) (by decide) ?_
          refine VD.to (fun _ _ h => h) ?_
          refine VC.keep [4] rfl ?_
          cases hS
          exact VC.ret (fin1 (.inr rfl) rfl rfl () rfl trivial (fun _ _ => trivial) (fun _ _ => trivial))
        ·
          replace hS := it_f h26 hS
          refine VD.gn rfl rfl rfl rfl (by decide) ?_
          refine VD.gn rfl rfl rfl rfl (by decide) ?_
          refine VD.gn rfl rfl rfl rfl (by decide) ?_
          refine VD.gn rfl rfl rfl rfl (by decide) ?_
          refine VD.gn rfl rfl rfl rfl (by decide) ?_
          refine VD.q rfl (q_pick_f rfl rfl) (by decide) ?_
          refine VD.q rfl (q_assign rfl) (by decide) ?_
          refine VD.to (fun _ _ h => h) ?_
          refine VC.keep [4] rfl ?_
          cases hS
          exact VC.ret (fin1 (.inr rfl) rfl rfl () rfl trivial (fun _ _ => trivial) (fun _ _ => trivial))

end Go.Proofs.YtipnlckfohhkbaaDoor
end

section
/- Plain laws on commands. No program in sight. -/
namespace Go.S
open Go
set_option maxRecDepth 100000
theorem known22 : Sh.rectolaw22_known = some true := by decide +kernel
theorem verbs_all : ∀ n : Fin 256, Sh.rectolaw22_CmdVerbs (n.val : Int) = some true := by decide +kernel
theorem cmdVerbs_ok (n : Int) (b : 0 ≤ n ∧ n ≤ 255) : Sh.rectolaw22_CmdVerbs n = some true := by
  have := verbs_all ⟨n.toNat, by omega⟩
  rwa [show ((⟨n.toNat, by omega⟩ : Fin 256).val : Int) = n by show (n.toNat : Int) = n; omega] at this
end Go.S
end

section
/- Plain laws on loops that compare two rows. No program in sight. -/
namespace Go.S
theorem at_get {α : Type} {l : List α} {i : Int} (h0 : 0 ≤ i) (h : i < l.length) : ∃ z, l[i.toNat]? = some z := ⟨_, List.getElem?_eq_getElem (by omega)⟩
theorem eqloop {α : Type} [DecidableEq α] (P : α → α → Prop) [∀ z w, Decidable (P z w)] (hP : ∀ z w, P z w ↔ z = w) (l r : List α) (hl : (l.length : Int) = r.length) (hb : (l.length : Int) ≤ 1000000000) (B : Int → Option (Int ⊕ Bool))
    (hB : ∀ i, B i = if i < (l.length : Int) then (at_ l i).bind (fun z => (at_ r i).bind (fun w => if P z w then gd (I64 (i + 1)) (go (i + 1)) else up (some false))) else up (some true)) : iter B 0 = some (decide (l = r)) := by
  apply Ok.eq
  refine ok_iter (I := fun i => 0 ≤ i ∧ i ≤ l.length ∧ l.take i.toNat = r.take i.toNat) (μ := fun i => (l.length - i).toNat) ?_ ⟨by omega, by omega, rfl⟩
  rintro i ⟨h0, h1, h2⟩
  rw [hB]
  simp only [ok_if, ok_up, ok_bd, ok_gd, ok_go, ok_some, ok_at]
  refine ⟨fun h => ?_, fun h => ?_⟩
  · obtain ⟨z, hz⟩ := at_get h0 h
    obtain ⟨w, hw⟩ := at_get (l := r) h0 (by omega)
    refine ⟨h0, z, hz, h0, w, hw, fun hp => ?_, fun hp => ?_⟩
    · have e := (hP z w).1 hp
      refine ⟨⟨by omega, by omega⟩, ⟨by omega, by omega, ?_⟩, by omega⟩
      rw [show (i + 1).toNat = i.toNat + 1 by omega, List.take_add_one, List.take_add_one, h2, hz, hw, e]
    · have e : z ≠ w := fun e => hp ((hP z w).2 e)
      refine (decide_eq_false fun q => e ?_).symm
      subst q
      rw [hz] at hw
      exact Option.some.inj hw
  · have e : i.toNat = l.length := by omega
    rw [e, List.take_length] at h2
    rw [show l.length = r.length by omega, List.take_length] at h2
    exact (decide_eq_true h2).symm
end Go.S
end

section
/- Plain laws on rows. No program in sight. -/
namespace Go.S
theorem get_lt {α : Type} {l : List α} {i : Nat} {x : α} (h : l[i]? = some x) : i < l.length := (List.getElem?_eq_some_iff.1 h).1
theorem at_last {α : Type} (l : List α) (z : α) : (l ++ [z])[(((l ++ [z]).length : Int) - 1).toNat]? = some z := by
  rw [show ((((l ++ [z]).length : Int) - 1).toNat) = l.length by simp]
  simp
theorem take_last {α : Type} (l : List α) (z : α) : (l ++ [z]).take (((l ++ [z]).length : Int) - 1).toNat = l := by
  rw [show ((((l ++ [z]).length : Int) - 1).toNat) = l.length by simp]
  simp
theorem set_get_true {l : List Bool} {i j : Nat} (h : l[j]? = some true) : (l.set i true)[j]? = some true := by
  rw [List.getElem?_set]
  split
  · next e => subst e; rw [if_pos (get_lt h)]
  · exact h
theorem count_set_true {l : List Bool} {i : Nat} (h : l[i]? = some false) : (l.set i true).count false + 1 = l.count false := by
  have hi := get_lt h
  rw [List.count_set hi]
  have h1 : l[i] = false := by
    rw [List.getElem?_eq_getElem hi] at h; exact Option.some.inj h
  have h2 : 0 < l.count false := List.count_pos_iff.2 (h1 ▸ List.getElem_mem hi)
  simp [h1]; omega
theorem take_snoc {α : Type} {l : List α} {i : Int} {z : α} (h0 : 0 ≤ i) (h : l[i.toNat]? = some z) : l.take (i + 1).toNat = l.take i.toNat ++ [z] := by
  rw [show (i + 1).toNat = i.toNat + 1 by omega, List.take_add_one, h]; rfl
theorem set_self {x : List Bool} {i : Nat} (h : i < x.length) : (x.set i true)[i]? = some true := by rw [List.getElem?_set, if_pos rfl, if_pos h]
theorem filter_snoc {α : Type} (p : α → Bool) (l : List α) (z : α) : (l ++ [z]).filter p = l.filter p ++ (if p z then [z] else []) := by
  rw [List.filter_append]; cases h : p z <;> simp [h]
theorem map_at {α β : Type} {f : α → β} {l : List α} {i : Int} (h0 : 0 ≤ i) (h : i < (l.map f).length) : ∃ z, l[i.toNat]? = some z ∧ (l.map f)[i.toNat]? = some (f z) := by
  rw [List.length_map] at h
  obtain ⟨z, hz⟩ := at_get h0 h
  exact ⟨z, hz, by rw [List.getElem?_map, hz]; rfl⟩
theorem part_get {α : Type} {r l : List α} {i : Nat} (hl : r.length = l.length) {j : Nat} (h : i ≤ j) : (r.take i ++ l.drop i)[j]? = l[j]? := by
  by_cases hi : i ≤ r.length
  · rw [List.getElem?_append_right (by rw [List.length_take]; omega), List.length_take, List.getElem?_drop]
    congr 1; omega
  · rw [List.getElem?_eq_none (by simp; omega), List.getElem?_eq_none (by omega)]
theorem part_set {α : Type} {r l : List α} {i : Nat} {z : α} (hl : r.length = l.length) (h : r[i]? = some z) : (r.take i ++ l.drop i).set i z = r.take (i + 1) ++ l.drop (i + 1) := by
  have hi := get_lt h
  rw [List.take_add_one, h, List.set_append_right _ _ (by rw [List.length_take]; omega), List.length_take, show i - min i r.length = 0 by omega]
  have hd : l.drop i = l[i] :: l.drop (i + 1) := List.drop_eq_getElem_cons (by omega)
  rw [hd, List.set_cons_zero]
  simp
theorem ok_jnP {S R : Type} {K : S → Option R} {F : (S → Option R) → Option R} {Q : R → Prop} (P : S → Prop) (hK : ∀ s, P s → Ok (K s) Q) (hF : ∀ K' : S → Option R, (∀ s, P s → Ok (K' s) Q) → Ok (F K') Q) : Ok (jn K F) Q := hF K hK
theorem snoc_ind {α : Type} {P : List α → Prop} (h0 : P []) (h1 : ∀ l b, P l → P (l ++ [b])) (l : List α) : P l := by
  have h : ∀ r : List α, P r.reverse := fun r => by
    induction r with
    | nil => exact h0
    | cons x r ih => rw [List.reverse_cons]; exact h1 _ _ ih
  have := h l.reverse
  rwa [List.reverse_reverse] at this
theorem byte_eq {z : UInt8} {n : Nat} (hn : n < 256) : ((z.toNat : Int) = n) ↔ z = UInt8.ofNat n := by
  constructor
  · intro h
    apply UInt8.toNat_inj.1
    simp [Nat.mod_eq_of_lt hn]; omega
  · intro h
    subst h
    simp [Nat.mod_eq_of_lt hn]
theorem mid1 {α : Type} {s : List α} {i : Int} {z : α} (h0 : 0 ≤ i) (h : s[i.toNat]? = some z) : (s.drop i.toNat).take ((i + 1).toNat - i.toNat) = [z] := by
  obtain ⟨h1, h2⟩ := List.getElem?_eq_some_iff.1 h
  rw [show (i + 1).toNat - i.toNat = 1 by omega, List.drop_eq_getElem_cons h1, h2]
  rfl
theorem drop_cons {α : Type} {s : List α} {i : Int} {z : α} (h0 : 0 ≤ i) (h : s[i.toNat]? = some z) : s.drop i.toNat = z :: s.drop (i + 1).toNat := by
  obtain ⟨h1, h2⟩ := List.getElem?_eq_some_iff.1 h
  rw [show (i + 1).toNat = i.toNat + 1 by omega, List.drop_eq_getElem_cons h1, h2]
end Go.S
end

section
/- Plain laws on commands: which are the same. No program in sight. -/
namespace Go.S
open Go
def toR22 (x : TodoStep) : Rectoref17Step := ⟨x.verb, x.commit, x.text⟩
theorem of22_ok {l : List TodoStep} (h : l.length ≤ 1000) : Sh.rectolaw21_Of l = some (l.map toR22) := by
  apply Ok.eq
  unfold Sh.rectolaw21_Of
  refine ok_iter (I := fun t => 0 ≤ t.2 ∧ t.2 ≤ l.length ∧ t.1 = (l.take t.2.toNat).map toR22) (μ := fun t => (l.length - t.2).toNat) ?_ ⟨by simp, by simp, by simp⟩
  rintro ⟨o, i⟩ ⟨i0, i1, i2⟩
  dsimp only at i0 i1 i2 ⊢
  simp only [ok_if, ok_up, ok_bd, ok_gd, ok_lt, ok_go, ok_some, ok_at]
  refine ⟨fun hi => ?_, fun hi => ?_⟩
  · obtain ⟨x, hx⟩ := at_get (l := l) i0 hi
    refine ⟨i0, x, hx, i0, x, hx, i0, x, hx, ?_, ⟨by omega, by omega⟩, ⟨by omega, by omega, ?_⟩, by omega⟩
    · rw [i2]; simp only [List.length_map, List.length_take, List.length_cons, List.length_nil]; omega
    · rw [take_snoc i0 hx, List.map_append, i2]; rfl
  · rw [i2, List.take_of_length_le (by omega)]
theorem seq22_ok (l r : List TodoStep) (hb : (l.length : Int) ≤ 1000000000) : Sh.slices_Equal_todo_Step_todo_Step l r = some (decide (l = r)) := by
  unfold Sh.slices_Equal_todo_Step_todo_Step
  split
  · next h => exact eqloop (fun z w => z.verb = w.verb ∧ z.commit = w.commit ∧ z.text = w.text) (fun z w => by cases z; cases w; simp) l r h hb _ fun i => rfl
  · next h => exact congrArg some (decide_eq_false fun e => h (by rw [e])).symm
theorem same22_ok (a b : CmdCmdP) (hb : (a.todo.length : Int) ≤ 1000000000) : Sh.cmd_Same a b = some (decide (a = b)) := by
  unfold Sh.cmd_Same
  rw [seq22_ok _ _ hb]
  obtain ⟨a1, a2, a3, a4, a5, a6⟩ := a
  obtain ⟨b1, b2, b3, b4, b5, b6⟩ := b
  simp only [CmdCmdP.mk.injEq, Option.bind_some]
  repeat' split
  all_goals simp_all
def toC22 (c : CmdCmdP) : Rectoref17CmdP := ⟨c.verb, c.name, c.n, c.text, c.force, c.todo.map toR22⟩
theorem toC22_inj (a b : CmdCmdP) : toC22 a = toC22 b ↔ a = b := by
  obtain ⟨a1, a2, a3, a4, a5, a6⟩ := a
  obtain ⟨b1, b2, b3, b4, b5, b6⟩ := b
  have hm : a6.map toR22 = b6.map toR22 ↔ a6 = b6 := by
    constructor
    · intro h
      exact (List.map_inj_right (f := toR22) (fun x y e => by cases x; cases y; simpa [toR22] using e)).1 h
    · intro h; rw [h]
  simp only [toC22, Rectoref17CmdP.mk.injEq, CmdCmdP.mk.injEq, hm]
theorem rsame22_ok (a b : Rectoref17CmdP) (hb : (a.todo.length : Int) ≤ 1000000000) : Sh.rectoref17_Same a b = some (decide (a = b)) := by
  apply Ok.eq
  unfold Sh.rectoref17_Same
  refine ok_jnP (fun x => x = false ∧ a.verb = b.verb ∧ a.name = b.name ∧ a.n = b.n ∧ a.text = b.text ∧ a.force = b.force ∧ (a.todo.length : Int) = b.todo.length ∨ x = true ∧ a ≠ b) ?_ ?_
  · rintro x (⟨rfl, h1, h2, h3, h4, h5, h6⟩ | ⟨rfl, h⟩)
    · rw [if_neg (by simp)]
      refine Ok.of (eqloop (fun z w => z.verb = w.verb ∧ z.commit = w.commit ∧ z.text = w.text) (fun z w => by cases z; cases w; simp) a.todo b.todo h6 hb _ fun i => rfl) ?_
      obtain ⟨a1, a2, a3, a4, a5, a6⟩ := a
      obtain ⟨b1, b2, b3, b4, b5, b6⟩ := b
      simp_all
    · rw [if_pos rfl, ok_some]
      exact (decide_eq_false h).symm
  · intro K hK
    have no : a ≠ b → Ok (K true) _ := fun h => hK true (.inr ⟨rfl, h⟩)
    simp only [ok_if]
    refine ⟨fun h1 => ⟨fun h2 => ⟨fun h3 => ⟨fun h4 => ⟨fun h5 => ?_, fun h => no fun e => h (by rw [e])⟩, fun h => no fun e => h (by rw [e])⟩, fun h => no fun e => h (by rw [e])⟩, fun h => no fun e => h (by rw [e])⟩, fun h => no fun e => h (by rw [e])⟩
    by_cases h6 : (a.todo.length : Int) = b.todo.length
    · exact hK _ (.inl ⟨by simp [h6], h1, h2, h3, h4, h5, h6⟩)
    · exact hK _ (.inr ⟨by simp [h6], fun e => h6 (by rw [e])⟩)
theorem few22_ok (c : CmdCmdP) : Ok (Sh.rectolaw22_Few c) fun b => b = true → c.todo.length ≤ 40 ∧ c.verb.length ≤ 50 ∧ c.name.length ≤ 100 ∧ c.text.length ≤ 400 ∧ ∀ x ∈ c.todo, x.text.length ≤ 400 ∧ x.verb.length ≤ 50 := by
  unfold Sh.rectolaw22_Few
  refine ok_jnP (fun x => x = false → c.todo.length ≤ 40 ∧ c.verb.length ≤ 50 ∧ c.name.length ≤ 100 ∧ c.text.length ≤ 400) ?_ ?_
  · intro x hx
    simp only [ok_if, ok_some]
    refine ⟨fun _ h => (by cases h), fun hxf => ?_⟩
    obtain ⟨h1, h2, h3, h4⟩ := hx (by simpa using hxf)
    refine ok_iter (I := fun i => 0 ≤ i ∧ i ≤ c.todo.length ∧ ∀ x ∈ c.todo.take i.toNat, x.text.length ≤ 400 ∧ x.verb.length ≤ 50) (μ := fun i => (c.todo.length - i).toNat) ?_ ⟨by omega, by omega, by simp⟩
    rintro i ⟨i0, i1, i2⟩
    simp only [ok_if, ok_up, ok_some]
    refine ⟨fun hi => ?_, fun hi => ?_⟩
    · obtain ⟨z, hz⟩ := at_get (l := c.todo) i0 hi
      refine ok_jnP (fun b => b = false → z.text.length ≤ 400 ∧ z.verb.length ≤ 50) ?_ ?_
      · intro b hb
        simp only [ok_if, ok_up, ok_gd, ok_go, ok_some]
        refine ⟨fun _ h => (by cases h), fun hbf => ⟨⟨by omega, by omega⟩, ⟨by omega, by omega, fun y hy => ?_⟩, by omega⟩⟩
        rw [take_snoc i0 hz] at hy
        rcases List.mem_append.1 hy with q | q
        · exact i2 y q
        · rw [List.mem_singleton.1 q]; exact hb (by simpa using hbf)
      · intro K hK
        simp only [ok_bd, ok_at, ok_if]
        refine ⟨i0, z, hz, fun _ => hK _ fun h => (by cases h), fun h => ⟨i0, z, hz, hK _ fun h2 => ?_⟩⟩
        have := of_decide_eq_false h2
        omega
    · rw [List.take_of_length_le (by omega)] at i2
      exact fun _ => ⟨h1, h2, h3, h4, i2⟩
  · intro K hK
    simp only [ok_if]
    refine ⟨fun _ => hK _ fun h => (by cases h), fun h1 => ⟨fun _ => hK _ fun h => (by cases h), fun h2 => ⟨fun _ => hK _ fun h => (by cases h), fun h3 => hK _ fun h4 => ?_⟩⟩⟩
    have := of_decide_eq_false h4
    omega
theorem cmdTwo_ok (a b : CmdCmdP) : Sh.rectolaw22_CmdTwo a b = some true := by
  apply Ok.eq
  unfold Sh.rectolaw22_CmdTwo
  rw [known22, Option.bind_some, if_neg (by simp)]
  refine ok_jnP (fun x => x = false → a.todo.length ≤ 40 ∧ b.todo.length ≤ 40) ?_ ?_
  · intro x hx
    simp only [ok_if, ok_some]
    refine ⟨fun _ => trivial, fun hxf => ?_⟩
    obtain ⟨h1, h2⟩ := hx (by simpa using hxf)
    have ha : Sh.rectolaw22_Of a = some (toC22 a) := by unfold Sh.rectolaw22_Of; rw [of22_ok (by omega)]; rfl
    have hb : Sh.rectolaw22_Of b = some (toC22 b) := by unfold Sh.rectolaw22_Of; rw [of22_ok (by omega)]; rfl
    rw [same22_ok a b (by omega), Option.bind_some, ha, Option.bind_some, hb, Option.bind_some, rsame22_ok _ _ (by simp [toC22]; omega), Option.bind_some, if_pos (by simp only [toC22_inj]), same22_ok b a (by omega), Option.bind_some, ok_some]
    simp only [decide_eq_true_eq, decide_eq_decide]
    exact eq_comm
  · intro K hK
    rw [ok_bd]
    refine (few22_ok a).mono fun x hx => ?_
    simp only [ok_if, ok_bd]
    refine ⟨fun _ => hK _ fun h => (by cases h), fun h1 => (few22_ok b).mono fun y hy => hK _ fun h2 => ⟨(hx (by simpa using h1)).1, (hy (by simpa using h2)).1⟩⟩
end Go.S
end
