/- Part of the proofs of: For every command it is told whether it may be and why not, and in words, and back, as far as its verb has it. -/
import Derived.Test.YtpmhinamcndmeaaGreatDoorCB
set_option linter.unusedVariables false
set_option linter.unusedSimpArgs false
set_option linter.unusedSectionVars false
section
set_option linter.unusedVariables false
namespace Go.Proofs.YtpmhinamcndmeaaGreatDoor
set_option maxHeartbeats 4000000
set_option maxRecDepth 100000
open Go.RowKit Go.V
open Go.S hiding Str
theorem cmd_name_ct (c_0 : CmdCmd) {r : Int} (hS : Sh.cmd_name c_0.pl = some r) :
 Ct Tryz.prog 116 [.agg #[str c_0.verb, str c_0.name, i64 c_0.n, str c_0.text, .bool c_0.force, c_0.todo.val]] c_0.todo.ok (Ow.emp) (X := Unit) (fun _ => i64 r) (fun _ => True) (fun _ => Mo.tt) (fun _ => Ow.emp) := by
 refine Ct.of Tryz.func116 rfl (by kernel_rfl) Tryz.ntmps116 (by simp) fun c => ?_
 unfold Sh.cmd_name at hS
 refine Zq (Zr ?_)
 refine VL.box (cs := [str c_0.verb, str c_0.name, i64 c_0.n, str c_0.text, .bool c_0.force, c_0.todo.val]) rfl rfl (by decide) fun b1_1 => ?_
 refine Za ?_
 refine Zl ?_
 refine Zq (Zr ?_)
 refine Za ?_
 refine Zl ?_
 refine VC.cutJ (S := Bool) (fun (ok3_2 : Bool) => ok3_2) (fun (ok3_2 : Bool) => [(3, .bool ok3_2)]) (fun (ok3_2 : Bool) => Mo.tt) (fun (ok3_2 : Bool) => Ow.star (Blk b1_1 [str c_0.verb, str c_0.name, i64 c_0.n, str c_0.text, .bool c_0.force, c_0.todo.val] 86) (Ow.emp)) hS ?_ ?_
 ·
  clear hS
  intro k3 hS
  refine Zq (Zr ?_)
  refine VL.q (q_field gfa86_0 rfl) (by decide) ?_
  refine VL.q (q_fe gone9 rfl rfl) (by decide) ?_
  refine Zl ?_
  refine Zb ?_
  refine VC.cutJ (S := Unit) (fun (_ : Unit) => ()) (fun (_ : Unit) => [(1, ptr b1_1 0)]) (fun (_ : Unit) => Mo.tt) (fun (_ : Unit) => Ow.star (Blk b1_1 [str c_0.verb, str c_0.name, i64 c_0.n, str c_0.text, .bool c_0.force, c_0.todo.val] 86) (Ow.emp)) hS ?_ ?_
  ·
   clear hS
   intro k4 hS
   refine Zb ?_
   refine VC.cutJ (S := Unit) (fun (_ : Unit) => ()) (fun (_ : Unit) => [(1, ptr b1_1 0)]) (fun (_ : Unit) => Mo.tt) (fun (_ : Unit) => Ow.star (Blk b1_1 [str c_0.verb, str c_0.name, i64 c_0.n, str c_0.text, .bool c_0.force, c_0.todo.val] 86) (Ow.emp)) hS ?_ ?_
   ·
    clear hS
    intro k5 hS
    refine Zb ?_
    refine VC.cutJ (S := Unit) (fun (_ : Unit) => ()) (fun (_ : Unit) => [(1, ptr b1_1 0)]) (fun (_ : Unit) => Mo.tt) (fun (_ : Unit) => Ow.star (Blk b1_1 [str c_0.verb, str c_0.name, i64 c_0.n, str c_0.text, .bool c_0.force, c_0.todo.val] 86) (Ow.emp)) hS ?_ ?_
    ·
     clear hS
     intro k6 hS
     refine Zb ?_
     refine VC.cutJ (S := Unit) (fun (_ : Unit) => ()) (fun (_ : Unit) => [(1, ptr b1_1 0)]) (fun (_ : Unit) => Mo.tt) (fun (_ : Unit) => Ow.star (Blk b1_1 [str c_0.verb, str c_0.name, i64 c_0.n, str c_0.text, .bool c_0.force, c_0.todo.val] 86) (Ow.emp)) hS ?_ ?_
     ·
      clear hS
      intro k7 hS
      refine Zb (Zq (Zb (Zq (Zq (Zq (Zr ?_))))))
      refine Zs ?_
      refine Za ?_
      refine Zl ?_
      refine VC.cond_dec rfl (fun h6 => ?_) (fun h6 => ?_)
      ·
       replace hS := it_t h6 hS
       refine Zx ?_
       refine Zq (Zr ?_)
       refine VL.q (q_field gfa86_1 rfl) (by decide) ?_
       refine VL.q (q_fe gone9 rfl rfl) (by decide) ?_
       refine Zs ?_
       refine Zl ?_
       refine VC.keep [1, 20] rfl ?_
       refine VC.cond_dec rfl (fun h20 => ?_) (fun h20 => ?_)
       ·
        replace hS := it_t h20 hS
        refine Zq (Zr ?_)
        refine Za ?_
        refine Zl ?_
        cases hS
        exact Ze
       replace hS := it_f h20 hS
       refine VC.skip_mt () [1] (fun _ _ h => h) hS rfl
      replace hS := it_f h6 hS
      refine Zk ?_
      refine Zq (Zq (Zr ?_))
      refine Zs ?_
      refine Za ?_
      refine Zl ?_
      refine VC.cond_dec rfl (fun h8 => ?_) (fun h8 => ?_)
      ·
       replace hS := it_t h8 hS
       refine VC.exit_mt () [1] (fun _ _ h => h) hS rfl
      replace hS := it_f h8 hS
      refine Zk ?_
      refine VC.cutJ (S := Unit) (fun (_ : Unit) => ()) (fun (_ : Unit) => [(1, ptr b1_1 0), (3, .bool true), (5, str c_0.verb)]) (fun (_ : Unit) => Mo.tt) (fun (_ : Unit) => Ow.star (Blk b1_1 [str c_0.verb, str c_0.name, i64 c_0.n, str c_0.text, .bool c_0.force, c_0.todo.val] 86) (Ow.emp)) hS ?_ ?_
      ·
       clear hS
       intro k8 hS
       refine Zq (Zq (Zr ?_))
       refine Zs ?_
       refine Za ?_
       refine Zl ?_
       refine VC.keep [1, 3, 5, 10] rfl ?_
       refine VC.cond_dec rfl (fun h10 => ?_) (fun h10 => ?_)
       ·
        replace hS := it_t h10 hS
        refine Zk ?_
        refine VC.cond_dec rfl (fun h10 => ?_) (fun h10 => ?_)
        ·
         replace hS := it_t h10 hS
         refine VC.exit_mt () [1] (fun _ _ h => h) hS rfl
        replace hS := it_f h10 hS
        refine VC.skip_mt () [1, 3, 5] (fun _ _ h => h) hS rfl
       replace hS := it_f h10 hS
       refine Zq (Zr ?_)
       refine Zs ?_
       refine Za ?_
       refine Zl ?_
       refine VC.cond_dec rfl (fun h10 => ?_) (fun h10 => ?_)
       ·
        replace hS := it_t h10 hS
        refine Zk ?_
        refine VC.cond_dec rfl (fun h10 => ?_) (fun h10 => ?_)
        ·
         replace hS := it_t h10 hS
         refine VC.exit_mt () [1] (fun _ _ h => h) hS rfl
        replace hS := it_f h10 hS
        refine VC.skip_mt () [1, 3, 5] (fun _ _ h => h) hS rfl
       replace hS := it_f h10 hS
       refine Zr ?_
       refine Zs ?_
       refine Za ?_
       refine Zl ?_
       refine VC.cond_dec rfl (fun h10 => ?_) (fun h10 => ?_)
       ·
        replace hS := it_t h10 hS
        refine VC.exit_mt () [1] (fun _ _ h => h) hS rfl
       replace hS := it_f h10 hS
       refine VC.skip_mt () [1, 3, 5] (fun _ _ h => h) hS rfl
      clear hS
      rintro _ hS
      show VC _ _ _ _ _ [(1, ptr b1_1 0), (3, .bool true), (5, str c_0.verb)] (Mo.and Mo.tt _) (Ow.star (Blk b1_1 [str c_0.verb, str c_0.name, i64 c_0.n, str c_0.text, .bool c_0.force, c_0.todo.val] 86) (Ow.emp))
      refine Zq (Zq (Zr ?_))
      refine Zs ?_
      refine Za ?_
      refine Zl ?_
      refine VC.cond_dec rfl (fun h14 => ?_) (fun h14 => ?_)
      ·
       replace hS := it_t h14 hS
       refine VC.exit_mt () [1] (fun _ _ h => h) hS rfl
      replace hS := it_f h14 hS
      refine Zk ?_
      refine Zq (Zr ?_)
      refine Zs ?_
      refine Za ?_
      refine Zl ?_
      refine VC.cond_dec rfl (fun h16 => ?_) (fun h16 => ?_)
      ·
       replace hS := it_t h16 hS
       refine VC.exit_mt () [1] (fun _ _ h => h) hS rfl
      replace hS := it_f h16 hS
      refine Zk ?_
      refine VC.exit_mt true [3] (fun _ _ h => h) hS rfl
     clear hS
     rintro _ hS
     show VC _ _ _ _ _ [(1, ptr b1_1 0)] (Mo.and Mo.tt _) (Ow.star (Blk b1_1 [str c_0.verb, str c_0.name, i64 c_0.n, str c_0.text, .bool c_0.force, c_0.todo.val] 86) (Ow.emp))
     refine Zq (Zq (Zr ?_))
     refine VL.q (q_field gfa86_1 rfl) (by decide) ?_
     refine VL.q (q_fe gone9 rfl rfl) (by decide) ?_
     obtain ⟨y23_9, ey23_9, hS⟩ := bd_s hS
     refine VL.q (q_call (path_Check_ct c_0.name ey23_9) rfl (fun _ _ => rfl)) (by decide) ?_
     refine Za ?_
     refine Zl ?_
     cases hS
     exact Ze
    clear hS
    rintro _ hS
    show VC _ _ _ _ _ [(1, ptr b1_1 0)] (Mo.and Mo.tt _) (Ow.star (Blk b1_1 [str c_0.verb, str c_0.name, i64 c_0.n, str c_0.text, .bool c_0.force, c_0.todo.val] 86) (Ow.emp))
    refine Zq (Zr ?_)
    refine VL.q (q_field gfa86_1 rfl) (by decide) ?_
    refine VL.q (q_fe gone9 rfl rfl) (by decide) ?_
    obtain ⟨y26_10, ey26_10, hS⟩ := bd_s hS
    refine VL.q (q_call (names_Good_ct c_0.name ey26_10) rfl (fun _ _ => rfl)) (by decide) ?_
    refine Za ?_
    refine Zl ?_
    refine VC.exit_mt y26_10 [3] (fun _ _ h => h) hS rfl
   clear hS
   rintro _ hS
   show VC _ _ _ _ _ [(1, ptr b1_1 0)] (Mo.and Mo.tt _) (Ow.star (Blk b1_1 [str c_0.verb, str c_0.name, i64 c_0.n, str c_0.text, .bool c_0.force, c_0.todo.val] 86) (Ow.emp))
   refine Zq (Zr ?_)
   refine VL.q (q_field gfa86_1 rfl) (by decide) ?_
   refine VL.q (q_fe gone9 rfl rfl) (by decide) ?_
   refine Zs ?_
   refine Zm ?_
   refine VL.split_dec 30 rfl (fun h30 => ?_) (fun h30 => ?_)
   ·
    replace hS := it_t h30 hS
    refine Zn ?_
    refine Zn ?_
    refine Zn ?_
    refine Zt ?_
    refine Za ?_
    refine Zl ?_
    refine VC.exit_mt true [3] (fun _ _ h => h) hS rfl
   replace hS := it_f h30 hS
   refine VL.gy rfl rfl (q_field gfa86_1 rfl) (by decide) ?_
   refine VL.gy rfl rfl (q_fe gone9 rfl rfl) (by decide) ?_
   obtain ⟨y33_11, ey33_11, hS⟩ := bd_s hS
   refine VL.gy rfl rfl (q_call (names_Good_ct c_0.name ey33_11) rfl (fun _ _ => rfl)) (by decide) ?_
   refine Zf ?_
   refine Za ?_
   refine Zl ?_
   refine VC.exit_mt y33_11 [3] (fun _ _ h => h) hS rfl
  clear hS
  rintro _ hS
  show VC _ _ _ _ _ [(1, ptr b1_1 0)] (Mo.and Mo.tt _) (Ow.star (Blk b1_1 [str c_0.verb, str c_0.name, i64 c_0.n, str c_0.text, .bool c_0.force, c_0.todo.val] 86) (Ow.emp))
  refine Zq (Zr ?_)
  refine VL.q (q_field gfa86_1 rfl) (by decide) ?_
  refine VL.q (q_fe gone9 rfl rfl) (by decide) ?_
  refine Zs ?_
  refine Zm ?_
  refine VL.split_dec 38 rfl (fun h38 => ?_) (fun h38 => ?_)
  ·
   replace hS := it_t h38 hS
   refine Zn ?_
   refine Zn ?_
   refine Zn ?_
   refine Zt ?_
   refine Zm ?_
   refine Zn ?_
   refine Zn ?_
   refine Zn ?_
   refine Zt ?_
   refine Za ?_
   refine Zl ?_
   refine VC.keep [3] rfl ?_
   refine VC.exit_mt true [3] (fun _ _ h => h) hS rfl
  replace hS := it_f h38 hS
  refine VL.gy rfl rfl (q_field gfa86_1 rfl) (by decide) ?_
  refine VL.gy rfl rfl (q_fe gone9 rfl rfl) (by decide) ?_
  refine VL.gy rfl rfl (q_seq rfl rfl) (by decide) ?_
  refine Zf ?_
  refine Zm ?_
  refine VL.split_dec 43 rfl (fun h43 => ?_) (fun h43 => ?_)
  ·
   replace hS := it_t h43 hS
   refine Zn ?_
   refine Zn ?_
   refine Zn ?_
   refine Zt ?_
   refine Za ?_
   refine Zl ?_
   refine VC.keep [3] rfl ?_
   refine VC.exit_mt true [3] (fun _ _ h => h) hS rfl
  replace hS := it_f h43 hS
  refine VL.gy rfl rfl (q_field gfa86_1 rfl) (by decide) ?_
  refine VL.gy rfl rfl (q_fe gone9 rfl rfl) (by decide) ?_
  refine VL.gy rfl rfl (q_seq rfl rfl) (by decide) ?_
  refine Zf ?_
  refine Za ?_
  refine Zl ?_
  refine VC.keep [3] rfl ?_
  refine VC.exit_mt (decide (c_0.name = [104, 97, 114, 100])) [3] (fun _ _ h => h) hS rfl
 clear hS
 rintro ok3_2 hS
 show VC _ _ _ _ _ [(3, .bool ok3_2)] (Mo.and Mo.tt _) (Ow.star (Blk b1_1 [str c_0.verb, str c_0.name, i64 c_0.n, str c_0.text, .bool c_0.force, c_0.todo.val] 86) (Ow.emp))
 refine Zq (Zq (Zr ?_))
 refine Zm ?_
 refine VL.q (q_not rfl) (by decide) ?_
 refine Zl ?_
 refine VC.cond rfl (fun h49 => ?_) (fun h49 => ?_)
 ·
  replace hS := it_t h49 hS
  refine Zq (Zr ?_)
  refine Za ?_
  refine Zl ?_
  cases hS
  exact Ze
 replace hS := it_b h49 hS
 refine Zk ?_
 refine Zq (Zr ?_)
 refine Za ?_
 refine Zl ?_
 cases hS
 exact Ze
theorem cmd_number_ct (c_0 : CmdCmd) {r : Int} (hS : Sh.cmd_number c_0.pl = some r) :
 Ct Tryz.prog 117 [.agg #[str c_0.verb, str c_0.name, i64 c_0.n, str c_0.text, .bool c_0.force, c_0.todo.val]] c_0.todo.ok (Ow.emp) (X := Unit) (fun _ => i64 r) (fun _ => True) (fun _ => Mo.tt) (fun _ => Ow.emp) := by
 refine Ct.of Tryz.func117 rfl (by kernel_rfl) Tryz.ntmps117 (by simp) fun c => ?_
 unfold Sh.cmd_number at hS
 refine Zq (Zr ?_)
 refine VL.box (cs := [str c_0.verb, str c_0.name, i64 c_0.n, str c_0.text, .bool c_0.force, c_0.todo.val]) rfl rfl (by decide) fun b1_1 => ?_
 refine Za ?_
 refine Zl ?_
 refine Zq (Zr ?_)
 refine VL.q (q_field gfa86_2 rfl) (by decide) ?_
 refine VL.q (q_fe gone3 rfl rfl) (by decide) ?_
 refine Za ?_
 refine Zl ?_
 refine VC.cutJ (S := Int) (fun (least3_2 : Int) => least3_2) (fun (least3_2 : Int) => [(1, ptr b1_1 0), (3, i64 least3_2)]) (fun (least3_2 : Int) => Mo.tt) (fun (least3_2 : Int) => Ow.star (Blk b1_1 [str c_0.verb, str c_0.name, i64 c_0.n, str c_0.text, .bool c_0.force, c_0.todo.val] 86) (Ow.emp)) hS ?_ ?_
 ·
  clear hS
  intro k3 hS
  refine Zq (Zr ?_)
  refine VL.q (q_field gfa86_0 rfl) (by decide) ?_
  refine VL.q (q_fe gone9 rfl rfl) (by decide) ?_
  refine Zl ?_
  refine Zb (Zq (Zb (Zq (Zb (Zq (Zb (Zq ?_)))))))
  refine VC.cutJ (S := Unit) (fun (_ : Unit) => ()) (fun (_ : Unit) => [(1, ptr b1_1 0), (3, i64 c_0.n), (7, str c_0.verb)]) (fun (_ : Unit) => Mo.tt) (fun (_ : Unit) => Ow.star (Blk b1_1 [str c_0.verb, str c_0.name, i64 c_0.n, str c_0.text, .bool c_0.force, c_0.todo.val] 86) (Ow.emp)) hS ?_ ?_
  ·
   clear hS
   intro k4 hS
   refine Zq (Zq (Zr ?_))
   refine Zs ?_
   refine Za ?_
   refine Zl ?_
   refine VC.cond_dec rfl (fun h8 => ?_) (fun h8 => ?_)
   ·
    replace hS := it_t h8 hS
    refine Zk ?_
    refine VC.cond_dec rfl (fun h8 => ?_) (fun h8 => ?_)
    ·
     replace hS := it_t h8 hS
     refine Zx ?_
     refine Zq (Zr ?_)
     refine Za ?_
     refine Zl ?_
     refine VC.exit_mt 0 [1, 3] (fun _ _ h => h) hS rfl
    replace hS := it_f h8 hS
    refine VC.skip_mt () [1, 3, 7] (fun _ _ h => h) hS rfl
   replace hS := it_f h8 hS
   refine Zq (Zr ?_)
   refine Zs ?_
   refine Za ?_
   refine Zl ?_
   refine VC.keep [1, 3, 7, 8] rfl ?_
   refine VC.cond_dec rfl (fun h8 => ?_) (fun h8 => ?_)
   ·
    replace hS := it_t h8 hS
    refine Zk ?_
    refine VC.cond_dec rfl (fun h8 => ?_) (fun h8 => ?_)
    ·
     replace hS := it_t h8 hS
     refine Zx ?_
     refine Zq (Zr ?_)
     refine Za ?_
     refine Zl ?_
     refine VC.exit_mt 0 [1, 3] (fun _ _ h => h) hS rfl
    replace hS := it_f h8 hS
    refine VC.skip_mt () [1, 3, 7] (fun _ _ h => h) hS rfl
   replace hS := it_f h8 hS
   refine Zr ?_
   refine Zs ?_
   refine Za ?_
   refine Zl ?_
   refine VC.cond_dec rfl (fun h8 => ?_) (fun h8 => ?_)
   ·
    replace hS := it_t h8 hS
    refine Zx ?_
    refine Zq (Zr ?_)
    refine Za ?_
    refine Zl ?_
    refine VC.exit_mt 0 [1, 3] (fun _ _ h => h) hS rfl
   replace hS := it_f h8 hS
   refine VC.skip_mt () [1, 3, 7] (fun _ _ h => h) hS rfl
  clear hS
  rintro _ hS
  show VC _ _ _ _ _ [(1, ptr b1_1 0), (3, i64 c_0.n), (7, str c_0.verb)] (Mo.and Mo.tt _) (Ow.star (Blk b1_1 [str c_0.verb, str c_0.name, i64 c_0.n, str c_0.text, .bool c_0.force, c_0.todo.val] 86) (Ow.emp))
  refine Zq (Zq (Zr ?_))
  refine Zs ?_
  refine Za ?_
  refine Zl ?_
  refine VC.cond_dec rfl (fun h12 => ?_) (fun h12 => ?_)
  ·
   replace hS := it_t h12 hS
   refine Zx ?_
   refine Zq (Zr ?_)
   refine VL.q (q_field gfa86_1 rfl) (by decide) ?_
   refine VL.q (q_fe gone9 rfl rfl) (by decide) ?_
   refine VL.q (q_sne rfl rfl) (by decide) ?_
   refine Zl ?_
   refine VC.cond_ndec rfl (fun h21 => ?_) (fun h21 => ?_)
   ·
    replace hS := it_f h21 hS
    refine VC.exit_mt c_0.n [1, 3] (fun _ _ h => h) hS rfl
   replace hS := it_t h21 hS
   refine Zk ?_
   refine Zq (Zr ?_)
   refine Za ?_
   refine Zl ?_
   refine VC.exit_mt 1 [1, 3] (fun _ _ h => h) hS rfl
  replace hS := it_f h12 hS
  refine Zk ?_
  refine Zq (Zq (Zr ?_))
  refine Zs ?_
  refine Za ?_
  refine Zl ?_
  refine VC.cond_dec rfl (fun h14 => ?_) (fun h14 => ?_)
  ·
   replace hS := it_t h14 hS
   refine Zk ?_
   refine VC.cond_dec rfl (fun h14 => ?_) (fun h14 => ?_)
   ·
    replace hS := it_t h14 hS
    refine Zx ?_
    refine Zq (Zr ?_)
    refine Za ?_
    refine Zl ?_
    refine VC.exit_mt 1 [1, 3] (fun _ _ h => h) hS rfl
   replace hS := it_f h14 hS
   refine Zk ?_
   refine VC.exit_mt c_0.n [1, 3] (fun _ _ h => h) hS rfl
  replace hS := it_f h14 hS
  refine Zq (Zr ?_)
  refine Zs ?_
  refine Za ?_
  refine Zl ?_
  refine VC.cond_dec rfl (fun h14 => ?_) (fun h14 => ?_)
  ·
   replace hS := it_t h14 hS
   refine Zk ?_
   refine VC.cond_dec rfl (fun h14 => ?_) (fun h14 => ?_)
   ·
    replace hS := it_t h14 hS
    refine Zx ?_
    refine Zq (Zr ?_)
    refine Za ?_
    refine Zl ?_
    refine VC.exit_mt 1 [1, 3] (fun _ _ h => h) hS rfl
   replace hS := it_f h14 hS
   refine Zk ?_
   refine VC.exit_mt c_0.n [1, 3] (fun _ _ h => h) hS rfl
  replace hS := it_f h14 hS
  refine Zq (Zr ?_)
  refine Zs ?_
  refine Za ?_
  refine Zl ?_
  refine VC.cond_dec rfl (fun h14 => ?_) (fun h14 => ?_)
  ·
   replace hS := it_t h14 hS
   refine Zk ?_
   refine VC.cond_dec rfl (fun h14 => ?_) (fun h14 => ?_)
   ·
    replace hS := it_t h14 hS
    refine Zx ?_
    refine Zq (Zr ?_)
    refine Za ?_
    refine Zl ?_
    refine VC.exit_mt 1 [1, 3] (fun _ _ h => h) hS rfl
   replace hS := it_f h14 hS
   refine Zk ?_
   refine VC.exit_mt c_0.n [1, 3] (fun _ _ h => h) hS rfl
  replace hS := it_f h14 hS
  refine Zr ?_
  refine Zs ?_
  refine Za ?_
  refine Zl ?_
  refine VC.cond_dec rfl (fun h14 => ?_) (fun h14 => ?_)
  ·
   replace hS := it_t h14 hS
   refine Zx ?_
   refine Zq (Zr ?_)
   refine Za ?_
   refine Zl ?_
   refine VC.exit_mt 1 [1, 3] (fun _ _ h => h) hS rfl
  replace hS := it_f h14 hS
  refine Zk ?_
  refine VC.exit_mt c_0.n [1, 3] (fun _ _ h => h) hS rfl
 clear hS
 rintro least3_2 hS
 show VC _ _ _ _ _ [(1, ptr b1_1 0), (3, i64 least3_2)] (Mo.and Mo.tt _) (Ow.star (Blk b1_1 [str c_0.verb, str c_0.name, i64 c_0.n, str c_0.text, .bool c_0.force, c_0.todo.val] 86) (Ow.emp))
 refine Zq (Zq (Zr ?_))
 refine VL.q (q_field gfa86_2 rfl) (by decide) ?_
 refine VL.q (q_fe gone3 rfl rfl) (by decide) ?_
 refine Zm ?_
 refine VL.q (q_lss rfl rfl) (by decide) ?_
 refine Zl ?_
 refine VC.cond_dec rfl (fun h25 => ?_) (fun h25 => ?_)
 ·
  replace hS := it_t h25 hS
  refine Zq (Zr ?_)
  refine Za ?_
  refine Zl ?_
  cases hS
  exact Ze
 replace hS := it_f h25 hS
 refine Zk ?_
 refine Zq (Zr ?_)
 refine Za ?_
 refine Zl ?_
 cases hS
 exact Ze
theorem strings_Contains_ct (s_0 : Str) (substr_1 : Str) {r : Bool} (hS : Sh.strings_Contains s_0 substr_1 = some r) :
 Ct Tryz.prog 260 [str s_0, str substr_1] Mo.tt (Ow.emp) (X := Unit) (fun _ => .bool r) (fun _ => True) (fun _ => Mo.tt) (fun _ => Ow.emp) := by
 refine Ct.of Tryz.func260 rfl (by kernel_rfl) Tryz.ntmps260 (by simp) fun c => ?_
 unfold Sh.strings_Contains at hS
 refine Zq (Zr ?_)
 refine Za ?_
 refine Zl ?_
 refine Zq (Zr ?_)
 refine Zm ?_
 refine Zm ?_
 obtain ⟨y7_1, ey7_1, hS⟩ := bd_s hS
 refine VL.q (q_call (strings_Index_ct s_0 substr_1 ey7_1) rfl (fun _ _ => rfl)) (by decide) ?_
 refine VL.q (q_geq rfl rfl) (by decide) ?_
 refine Za ?_
 refine Zl ?_
 cases hS
 exact Ze
theorem cmd_text_ct (s_0 : Str) (must_1 : Bool) {r : Int} (hS : Sh.cmd_text s_0 must_1 = some r) :
 Ct Tryz.prog 199 [str s_0, .bool must_1] Mo.tt (Ow.emp) (X := Unit) (fun _ => i64 r) (fun _ => True) (fun _ => Mo.tt) (fun _ => Ow.emp) := by
 refine Ct.of Tryz.func199 rfl (by kernel_rfl) Tryz.ntmps199 (by simp) fun c => ?_
 unfold Sh.cmd_text at hS
 refine Zq (Zr ?_)
 refine Za ?_
 refine Zl ?_
 refine Zq (Zb (Zq (Zr ?_)))
 refine Zm ?_
 refine VL.q (q_slen Tryz.underlying9 rfl) (by decide) ?_
 refine VL.q (q_gtr rfl rfl) (by decide) ?_
 refine Za ?_
 refine Zl ?_
 refine VC.cond_dec rfl (fun h5 => ?_) (fun h5 => ?_)
 ·
  replace hS := it_t h5 hS
  refine Zq (Zr ?_)
  refine Za ?_
  refine Zl ?_
  cases hS
  exact Ze
 replace hS := it_f h5 hS
 refine VC.cutJ (S := Bool) (fun (x9_1 : Bool) => x9_1) (fun (x9_1 : Bool) => [(0, str s_0), (9, .bool x9_1)]) (fun (x9_1 : Bool) => Mo.tt) (fun (x9_1 : Bool) => Ow.emp) hS ?_ ?_
 ·
  clear hS
  intro k2 hS
  refine Zr ?_
  refine Zm ?_
  refine Zm ?_
  refine VL.split 11 rfl (fun h11 => ?_) (fun h11 => ?_)
  ·
   replace hS := it_t h11 hS
   refine Zg ?_
   refine VL.gy rfl rfl (q_seq rfl rfl) (by decide) ?_
   refine Zt ?_
   refine Za ?_
   refine VL.mt (decide (s_0 = [])) [0, 9] (fun _ _ h => h) hS rfl
  replace hS := it_b h11 hS
  refine Zn ?_
  refine Zn ?_
  refine Zf ?_
  refine Za ?_
  refine VL.mt false [0, 9] (fun _ _ h => h) hS rfl
 clear hS
 rintro x9_1 hS
 show VC _ _ _ _ _ [(0, str s_0), (9, .bool x9_1)] (Mo.and Mo.tt _) (Ow.emp)
 refine VC.cond rfl (fun h9 => ?_) (fun h9 => ?_)
 ·
  replace hS := it_t h9 hS
  refine Zq (Zr ?_)
  refine Za ?_
  refine Zl ?_
  cases hS
  exact Ze
 replace hS := it_b h9 hS
 refine Zq (Zr ?_)
 refine Zm ?_
 obtain ⟨y17_3, ey17_3, hS⟩ := bd_s hS
 refine VL.q (q_call (strings_Contains_ct s_0 [10] ey17_3) rfl (fun _ _ => rfl)) (by decide) ?_
 refine Za ?_
 refine Zl ?_
 refine VC.cond rfl (fun h15 => ?_) (fun h15 => ?_)
 ·
  replace hS := it_t h15 hS
  refine Zq (Zr ?_)
  refine Za ?_
  refine Zl ?_
  cases hS
  exact Ze
 replace hS := it_b h15 hS
 refine Zk ?_
 refine Zq (Zr ?_)
 refine Za ?_
 refine Zl ?_
 cases hS
 exact Ze
theorem cmd_steps_ct (l_0 : Sv TodoStep) {r : Int} (hS : Sh.cmd_steps l_0.l = some r) :
 Ct Tryz.prog 200 [l_0.val] l_0.ok (Ow.emp) (X := Unit) (fun _ => i64 r) (fun _ => True) (fun _ => Mo.tt) (fun _ => Ow.emp) := by
 refine Ct.of Tryz.func200 rfl (by kernel_rfl) Tryz.ntmps200 (by simp) fun c => ?_
 unfold Sh.cmd_steps at hS
 refine Zq (Zr ?_)
 refine Za ?_
 refine Zl ?_
 refine Zq (Zq (Zr ?_))
 refine Zm ?_
 refine VL.q (q_ln (s := l_0) Tryz.underlying84 rfl) (by decide) ?_
 refine VL.q (q_gtr rfl rfl) (by decide) ?_
 refine Zl ?_
 refine VC.cond_dec rfl (fun h8 => ?_) (fun h8 => ?_)
 ·
  replace hS := it_t h8 hS
  refine Zq (Zr ?_)
  refine Za ?_
  refine Zl ?_
  cases hS
  exact Ze
 replace hS := it_f h8 hS
 refine Zk ?_
 refine Zq (Zq (Zr ?_))
 refine Zm ?_
 refine VL.q (q_ln (s := l_0) Tryz.underlying84 rfl) (by decide) ?_
 refine Zm ?_
 refine Zl ?_
 refine Zb ?_
 refine VC.iter (S := Int) (fun (x11_1 : Int) => x11_1) (fun (x11_1 : Int) => [(9, l_0.val), (10, i64 (l_0.l.length : Int)), (11, i64 x11_1)]) (fun (x11_1 : Int) => Mo.tt) (fun (x11_1 : Int) => Ow.emp) 0 [9, 10, 11] hS rfl ?_
 clear hS
 rintro x11_1 m1 y1 hS hK1
 show VC _ _ _ _ _ [(9, l_0.val), (10, i64 (l_0.l.length : Int)), (11, i64 x11_1)] (Mo.and Mo.tt _) (Ow.emp)
 refine Zq (Zr ?_)
 refine VL.q (q_lss rfl rfl) (by decide) ?_
 refine Zl ?_
 refine Zq ?_
 refine VC.cond_dec rfl (fun h12 => ?_) (fun h12 => ?_)
 ·
  replace hS := it_t h12 hS
  refine Zk ?_
  refine Zq (Zb (Zq (Zr ?_)))
  obtain ⟨z13_2, nz13_2, hz13_2, hS⟩ := at_s hS
  refine VL.q (q_ixm (s := l_0) Tryz.underlying84 gsz173 rfl rfl nz13_2 (lt_of_get nz13_2 hz13_2)) (by decide) ?_
  refine VL.q (q_els (s := l_0) gagg173 rfl rfl hz13_2) (by decide) ?_
  refine VL.alloc (cs := [str [], i64 0, str []]) (by kernel_rfl) (by decide) fun b4_3 => ?_
  refine VL.store (vc := [str z13_2.verb, i64 z13_2.commit, str z13_2.text]) (cs' := [str z13_2.verb, i64 z13_2.commit, str z13_2.text]) rfl rfl rfl gsz173 rfl rfl (Nat.le_of_ble_eq_true rfl) rfl ?_
  refine Zl ?_
  refine Zq (Zq (Zr ?_))
  refine VL.q (q_field gfa173_0 rfl) (by decide) ?_
  refine VL.q (q_fe gone9 rfl rfl) (by decide) ?_
  refine Zl ?_
  refine Zb ?_
  refine VC.cutJ (S := Bool) (fun (x17_4 : Bool) => x17_4) (fun (x17_4 : Bool) => [(4, ptr b4_3 0), (9, l_0.val), (10, i64 (l_0.l.length : Int)), (11, i64 x11_1), (17, .bool x17_4)]) (fun (x17_4 : Bool) => Mo.tt) (fun (x17_4 : Bool) => Ow.star (Blk b4_3 [str z13_2.verb, i64 z13_2.commit, str z13_2.text] 173) (Ow.emp)) hS ?_ ?_
  ·
   clear hS
   intro k5 hS
   refine Zq (Zr ?_)
   refine Zs ?_
   refine Za ?_
   refine Zl ?_
   refine VC.cond_dec rfl (fun h17 => ?_) (fun h17 => ?_)
   ·
    replace hS := it_t h17 hS
    refine VC.skip_mt (decide (z13_2.verb = [112, 105, 99, 107])) [4, 9, 10, 11, 17] (fun _ _ h => h) hS rfl
   replace hS := it_f h17 hS
   refine Zq (Zr ?_)
   refine Zs ?_
   refine Za ?_
   refine Zl ?_
   refine VC.cond_dec rfl (fun h17 => ?_) (fun h17 => ?_)
   ·
    replace hS := it_t h17 hS
    refine VC.skip_mt (decide (z13_2.verb = [101, 100, 105, 116])) [4, 9, 10, 11, 17] (fun _ _ h => h) hS rfl
   replace hS := it_f h17 hS
   refine Zq (Zr ?_)
   refine Zs ?_
   refine Za ?_
   refine Zl ?_
   refine VC.keep [9, 10, 11, 4, 16, 17] rfl ?_
   refine VC.cond_dec rfl (fun h17 => ?_) (fun h17 => ?_)
   ·
    replace hS := it_t h17 hS
    refine VC.skip_mt (decide (z13_2.verb = [115, 113, 117, 97, 115, 104])) [4, 9, 10, 11, 17] (fun _ _ h => h) hS rfl
   replace hS := it_f h17 hS
   refine Zq (Zr ?_)
   refine Zs ?_
   refine Za ?_
   refine Zl ?_
   refine VC.cond_dec rfl (fun h17 => ?_) (fun h17 => ?_)
   ·
    replace hS := it_t h17 hS
    refine VC.skip_mt (decide (z13_2.verb = [102, 105, 120, 117, 112])) [4, 9, 10, 11, 17] (fun _ _ h => h) hS rfl
   replace hS := it_f h17 hS
   refine Zq (Zr ?_)
   refine Zs ?_
   refine Za ?_
   refine Zl ?_
   refine VC.cond_dec rfl (fun h17 => ?_) (fun h17 => ?_)
   ·
    replace hS := it_t h17 hS
    refine VC.skip_mt (decide (z13_2.verb = [100, 114, 111, 112])) [4, 9, 10, 11, 17] (fun _ _ h => h) hS rfl
   replace hS := it_f h17 hS
   refine Zr ?_
   refine Zs ?_
   refine Za ?_
   refine VL.mt (decide (z13_2.verb = [114, 101, 119, 111, 114, 100])) [4, 9, 10, 11, 17] (fun _ _ h => h) hS rfl
  clear hS
  rintro x17_4 hS
  show VC _ _ _ _ _ [(4, ptr b4_3 0), (9, l_0.val), (10, i64 (l_0.l.length : Int)), (11, i64 x11_1), (17, .bool x17_4)] (Mo.and Mo.tt _) (Ow.star (Blk b4_3 [str z13_2.verb, i64 z13_2.commit, str z13_2.text] 173) (Ow.emp))
  refine VC.cond rfl (fun h17 => ?_) (fun h17 => ?_)
  ·
   replace hS := it_t h17 hS
   refine Zk ?_
   refine Zq ?_
   refine VC.cutJ (S := Bool) (fun (x31_6 : Bool) => x31_6) (fun (x31_6 : Bool) => [(4, ptr b4_3 0), (9, l_0.val), (10, i64 (l_0.l.length : Int)), (11, i64 x11_1), (31, .bool x31_6)]) (fun (x31_6 : Bool) => Mo.tt) (fun (x31_6 : Bool) => Ow.star (Blk b4_3 [str z13_2.verb, i64 z13_2.commit, str z13_2.text] 173) (Ow.emp)) hS ?_ ?_
   ·
    clear hS
    intro k7 hS
    refine Zr ?_
    refine VL.q (q_field gfa173_1 rfl) (by decide) ?_
    refine VL.q (q_fe gone3 rfl rfl) (by decide) ?_
    refine VL.q (q_lss rfl rfl) (by decide) ?_
    refine Zm ?_
    refine VL.split_dec 27 rfl (fun h27 => ?_) (fun h27 => ?_)
    ·
     replace hS := it_t h27 hS
     refine Zn ?_
     refine Zn ?_
     refine Zn ?_
     refine Zt ?_
     refine VL.mt true [4, 9, 10, 11, 31] (fun _ _ h => h) hS rfl
    replace hS := it_f h27 hS
    refine VL.gy rfl rfl (q_field gfa173_1 rfl) (by decide) ?_
    refine VL.gy rfl rfl (q_fe gone3 rfl rfl) (by decide) ?_
    refine VL.gy rfl rfl (q_gtr rfl rfl) (by decide) ?_
    refine Zf ?_
    refine VL.mt (decide (1000000 < z13_2.commit)) [4, 9, 10, 11, 31] (fun _ _ h => h) hS rfl
   clear hS
   rintro x31_6 hS
   show VC _ _ _ _ _ [(4, ptr b4_3 0), (9, l_0.val), (10, i64 (l_0.l.length : Int)), (11, i64 x11_1), (31, .bool x31_6)] (Mo.and Mo.tt _) (Ow.star (Blk b4_3 [str z13_2.verb, i64 z13_2.commit, str z13_2.text] 173) (Ow.emp))
   refine VC.cond rfl (fun h31 => ?_) (fun h31 => ?_)
   ·
    replace hS := it_t h31 hS
    refine Zq (Zr ?_)
    refine Za ?_
    refine Zl ?_
    replace hS := up2 hS hK1
    cases hS
    exact Ze
   replace hS := it_b h31 hS
   refine Zk ?_
   refine Zq (Zq (Zr ?_))
   refine VL.q (q_field gfa173_0 rfl) (by decide) ?_
   refine VL.q (q_fe gone9 rfl rfl) (by decide) ?_
   refine VL.q (q_sne rfl rfl) (by decide) ?_
   refine Zl ?_
   refine VC.cond_ndec rfl (fun h34 => ?_) (fun h34 => ?_)
   ·
    replace hS := it_f h34 hS
    refine Zx ?_
    refine Zr ?_
    obtain ⟨b41, hS⟩ := gd_s hS
    refine VL.q (q_add rfl rfl b41) (by decide) ?_
    refine Zm ?_
    refine VL.rnd (x11_1 + 1) [9, 10, 11] (fun _ _ h => h) (go2 hS hK1) rfl
   replace hS := it_t h34 hS
   refine Zk ?_
   refine Zq (Zr ?_)
   refine VL.q (q_field gfa173_2 rfl) (by decide) ?_
   refine VL.q (q_fe gone9 rfl rfl) (by decide) ?_
   obtain ⟨y37_8, ey37_8, hS⟩ := bd_s hS
   refine VL.q (q_call (cmd_text_ct z13_2.text true ey37_8) rfl (fun _ _ => rfl)) (by decide) ?_
   refine Za ?_
   refine Zl ?_
   refine VC.keep [9, 10, 11, 5] rfl ?_
   refine Zq (Zr ?_)
   refine Zm ?_
   refine VL.q (q_neq rfl rfl) (by decide) ?_
   refine Zl ?_
   refine VC.cond_ndec rfl (fun h39 => ?_) (fun h39 => ?_)
   ·
    replace hS := it_f h39 hS
    refine Zq (Zr ?_)
    refine Zm ?_
    refine Za ?_
    refine Zl ?_
    replace hS := up2 hS hK1
    cases hS
    exact Ze
   replace hS := it_t h39 hS
   refine Zk ?_
   refine Zr ?_
   obtain ⟨b41, hS⟩ := gd_s hS
   refine VL.q (q_add rfl rfl b41) (by decide) ?_
   refine Zm ?_
   refine VL.rnd (x11_1 + 1) [9, 10, 11] (fun _ _ h => h) (go2 hS hK1) rfl
  replace hS := it_b h17 hS
  refine Zq (Zr ?_)
  refine Za ?_
  refine Zl ?_
  replace hS := up2 hS hK1
  cases hS
  exact Ze
 replace hS := it_f h12 hS
 replace hS := up2 hS hK1
 refine Zx ?_
 refine Zq (Zr ?_)
 refine Za ?_
 refine Zl ?_
 cases hS
 exact Ze
theorem cmd_more_ct (c_0 : CmdCmd) {r : Int} (hS : Sh.cmd_more c_0.pl = some r) :
 Ct Tryz.prog 118 [.agg #[str c_0.verb, str c_0.name, i64 c_0.n, str c_0.text, .bool c_0.force, c_0.todo.val]] c_0.todo.ok (Ow.emp) (X := Unit) (fun _ => i64 r) (fun _ => True) (fun _ => Mo.tt) (fun _ => Ow.emp) := by
 refine Ct.of Tryz.func118 rfl (by kernel_rfl) Tryz.ntmps118 (by simp) fun c => ?_
 unfold Sh.cmd_more at hS
 refine Zq (Zr ?_)
 refine VL.box (cs := [str c_0.verb, str c_0.name, i64 c_0.n, str c_0.text, .bool c_0.force, c_0.todo.val]) rfl rfl (by decide) fun b1_1 => ?_
 refine Za ?_
 refine Zl ?_
 refine Zq (Zq (Zr ?_))
 refine VL.q (q_field gfa86_0 rfl) (by decide) ?_
 refine VL.q (q_fe gone9 rfl rfl) (by decide) ?_
 refine Zl ?_
 refine Zb ?_
 refine VC.cutJ (S := Bool) (fun (x5_2 : Bool) => x5_2) (fun (x5_2 : Bool) => [(1, ptr b1_1 0), (4, str c_0.verb), (5, .bool x5_2)]) (fun (x5_2 : Bool) => Mo.tt) (fun (x5_2 : Bool) => Ow.star (Blk b1_1 [str c_0.verb, str c_0.name, i64 c_0.n, str c_0.text, .bool c_0.force, c_0.todo.val] 86) (Ow.emp)) hS ?_ ?_
 ·
  clear hS
  intro k3 hS
  refine Zq (Zr ?_)
  refine Zs ?_
  refine Za ?_
  refine Zl ?_
  refine VC.cond_dec rfl (fun h5 => ?_) (fun h5 => ?_)
  ·
   replace hS := it_t h5 hS
   refine VC.skip_mt (decide (c_0.verb = [99, 111, 109, 109, 105, 116])) [1, 4, 5] (fun _ _ h => h) hS rfl
  replace hS := it_f h5 hS
  refine Zr ?_
  refine Zs ?_
  refine Za ?_
  refine VL.mt (decide (c_0.verb = [115, 116, 97, 115, 104])) [1, 4, 5] (fun _ _ h => h) hS rfl
 clear hS
 rintro x5_2 hS
 show VC _ _ _ _ _ [(1, ptr b1_1 0), (4, str c_0.verb), (5, .bool x5_2)] (Mo.and Mo.tt _) (Ow.star (Blk b1_1 [str c_0.verb, str c_0.name, i64 c_0.n, str c_0.text, .bool c_0.force, c_0.todo.val] 86) (Ow.emp))
 refine VC.cond rfl (fun h5 => ?_) (fun h5 => ?_)
 ·
  replace hS := it_t h5 hS
  refine Zq (Zr ?_)
  refine VL.q (q_field gfa86_3 rfl) (by decide) ?_
  refine VL.q (q_fe gone9 rfl rfl) (by decide) ?_
  refine VL.q (q_field gfa86_0 rfl) (by decide) ?_
  refine VL.q (q_fe gone9 rfl rfl) (by decide) ?_
  refine Zs ?_
  obtain ⟨y13_4, ey13_4, hS⟩ := bd_s hS
  refine VL.q (q_call (cmd_text_ct c_0.text (decide (c_0.verb = [99, 111, 109, 109, 105, 116])) ey13_4) rfl (fun _ _ => rfl)) (by decide) ?_
  refine Za ?_
  refine Zl ?_
  cases hS
  exact Ze
 replace hS := it_b h5 hS
 refine Zq (Zr ?_)
 refine Zs ?_
 refine Za ?_
 refine Zl ?_
 refine VC.cond_dec rfl (fun h14 => ?_) (fun h14 => ?_)
 ·
  replace hS := it_t h14 hS
  refine Zq (Zr ?_)
  refine VL.q (q_field gfa86_5 rfl) (by decide) ?_
  refine VL.q (q_fe gone84 rfl rfl) (by decide) ?_
  obtain ⟨y18_5, ey18_5, hS⟩ := bd_s hS
  refine VL.q (q_call (cmd_steps_ct c_0.todo ey18_5) rfl (fun _ _ => rfl)) (by decide) ?_
  refine Za ?_
  refine Zl ?_
  cases hS
  exact Ze
 replace hS := it_f h14 hS
 refine Zk ?_
 refine Zq (Zr ?_)
 refine Za ?_
 refine Zl ?_
 cases hS
 exact Ze
theorem cmd_Check_ct (c_0 : CmdCmd) {r : Err} (hS : Sh.cmd_Check c_0.pl = some r) :
 Ct Tryz.prog 43 [.agg #[str c_0.verb, str c_0.name, i64 c_0.n, str c_0.text, .bool c_0.force, c_0.todo.val]] c_0.todo.ok (Ow.emp) (X := Er) (fun x => x.val) (fun x => r = x.pl) (fun x => x.ok) (fun x => Ow.emp) := by
 refine Ct.of Tryz.func43 rfl (by kernel_rfl) Tryz.ntmps43 (by simp) fun c => ?_
 unfold Sh.cmd_Check at hS
 refine Zq (Zr ?_)
 refine VL.box (cs := [str c_0.verb, str c_0.name, i64 c_0.n, str c_0.text, .bool c_0.force, c_0.todo.val]) rfl rfl (by decide) fun b1_1 => ?_
 refine Za ?_
 refine Zl ?_
 refine Zq (Zq (Zr ?_))
 refine VL.q (q_field gfa86_0 rfl) (by decide) ?_
 refine VL.q (q_fe gone9 rfl rfl) (by decide) ?_
 obtain ⟨y7_2, ey7_2, hS⟩ := bd_s hS
 refine VL.q (q_call (cmd_place_ct c_0.verb ey7_2) rfl (fun _ _ => rfl)) (by decide) ?_
 refine VL.q (q_lss rfl rfl) (by decide) ?_
 refine Zl ?_
 refine VC.cond_dec rfl (fun h8 => ?_) (fun h8 => ?_)
 ·
  replace hS := it_t h8 hS
  refine Zq (Zr ?_)
  refine VL.q (q_fes gagg86 rfl rfl) (by decide) ?_
  refine VL.q (q_mkif Tryz.underlying105 (fun _ h => by cases h) rfl) (by decide) ?_
  obtain ⟨y11_3, ey11_3, hS⟩ := bd_s hS
  refine VL.callF (cmd_fault_ct c_0 (Er.no 5) ey11_3) rfl (by decide) ?_
  rintro q11_3_0 rfl
  try dsimp only
  refine Za ?_
  refine Zl ?_
  cases hS
  exact VC.ret (fin1 (.inr rfl) rfl rfl q11_3_0 rfl rfl (by (try dsimp only); exact InM.out) (fun _ _ => trivial))
 replace hS := it_f h8 hS
 refine Zk ?_
 refine Zq (Zq ?_)
 refine VC.draw [(0, true), (1, true), (2, true), (3, true), (4, true), (5, true), (8, true), (6, false), (7, true)] mixed (by kernel_rfl) (by kernel_rfl) (by kernel_rfl) ?_
 refine VD.q rfl (q_fes gagg86 rfl rfl) (by decide) ?_
 obtain ⟨y13_4, ey13_4, hS⟩ := bd_s hS
 refine VD.q rfl (q_call (cmd_name_ct c_0 ey13_4) rfl (fun _ _ => rfl)) (by decide) ?_
 refine VD.q rfl (q_fes gagg86 rfl rfl) (by decide) ?_
 obtain ⟨y15_5, ey15_5, hS⟩ := bd_s hS
 refine VD.q rfl (q_call (cmd_number_ct c_0 ey15_5) rfl (fun _ _ => rfl)) (by decide) ?_
 refine VD.q rfl (q_fes gagg86 rfl rfl) (by decide) ?_
 obtain ⟨y17_6, ey17_6, hS⟩ := bd_s hS
 refine VD.q rfl (q_call (cmd_more_ct c_0 ey17_6) rfl (fun _ _ => rfl)) (by decide) ?_
 refine VD.q rfl (q_move rfl) (by decide) ?_
 refine VD.one rfl ?_
 refine VL.lit (α := Int) (xs := [.tmp 13, .tmp 15, .tmp 17]) (vs := [i64 y13_4, i64 y15_5, i64 y17_6]) [y13_4, y15_5, y17_6] Tryz.underlying186 glit105 (by decide) rfl rfl rfl rfl (by decide) (fun _ _ _ _ => trivial) (by decide) (fun s18_7 hs18_7 => ?_) (by decide)
 replace hS := lt_to hs18_7 hS
 refine VL.back (D' := []) (by kernel_rfl) (Pend.nil) ?_
 refine VD.q rfl (q_ln (s := s18_7) Tryz.underlying186 rfl) (by decide) ?_
 refine VD.to (fun _ _ h => h) ?_
 refine VC.keep [1, 20, 18, 19] rfl ?_
 refine Zb ?_
 refine VC.iter (S := Int) (fun (x20_9 : Int) => x20_9) (fun (x20_9 : Int) => [(1, ptr b1_1 0), (18, s18_7.val), (19, i64 (s18_7.l.length : Int)), (20, i64 x20_9)]) (fun (x20_9 : Int) => Mo.tt) (fun (x20_9 : Int) => Ow.star (Blk b1_1 [str c_0.verb, str c_0.name, i64 c_0.n, str c_0.text, .bool c_0.force, c_0.todo.val] 86) (Ow.emp)) 0 [1, 18, 19, 20] hS rfl ?_
 clear hS
 rintro x20_9 m1 y1 hS hK1
 show VC _ _ _ _ _ [(1, ptr b1_1 0), (18, s18_7.val), (19, i64 (s18_7.l.length : Int)), (20, i64 x20_9)] (Mo.and Mo.tt _) (Ow.star (Blk b1_1 [str c_0.verb, str c_0.name, i64 c_0.n, str c_0.text, .bool c_0.force, c_0.todo.val] 86) (Ow.emp))
 refine Zq (Zr ?_)
 refine VL.q (q_lss rfl rfl) (by decide) ?_
 refine Zl ?_
 refine Zq ?_
 refine VC.cond_dec rfl (fun h21 => ?_) (fun h21 => ?_)
 ·
  replace hS := it_t h21 hS
  refine Zk ?_
  refine Zq (Zb (Zq (Zr ?_)))
  obtain ⟨z22_10, nz22_10, hz22_10, hS⟩ := at_s hS
  refine VL.q (q_ixm (s := s18_7) Tryz.underlying186 gsz105 rfl rfl nz22_10 (lt_of_get nz22_10 hz22_10)) (by decide) ?_
  refine VL.q (q_el (s := s18_7) gone105 rfl hz22_10 rfl) (by decide) ?_
  refine Za ?_
  refine Zl ?_
  refine Zq (Zr ?_)
  refine Zm ?_
  refine VL.q (q_neq rfl rfl) (by decide) ?_
  refine Zl ?_
  refine VC.cond_ndec rfl (fun h25 => ?_) (fun h25 => ?_)
  ·
   replace hS := it_f h25 hS
   refine Zq (Zr ?_)
   refine VL.q (q_fes gagg86 rfl rfl) (by decide) ?_
   refine Zm ?_
   refine VL.q (q_mkif Tryz.underlying105 (fun _ h => by cases h) rfl) (by decide) ?_
   obtain ⟨y29_11, ey29_11, hS⟩ := bd_s hS
   refine VL.callF (cmd_fault_ct c_0 (Er.no z22_10) ey29_11) rfl (by decide) ?_
   rintro q29_11_0 rfl
   try dsimp only
   refine Za ?_
   refine Zl ?_
   refine VC.keep [2] rfl ?_
   replace hS := up2 hS hK1
   cases hS
   exact VC.ret (fin1 (.inr rfl) rfl rfl q29_11_0 rfl rfl (by (try dsimp only); exact InM.out) (fun _ _ => trivial))
  replace hS := it_t h25 hS
  refine Zk ?_
  refine Zr ?_
  obtain ⟨b30, hS⟩ := gd_s hS
  refine VL.q (q_add rfl rfl b30) (by decide) ?_
  refine Zm ?_
  refine VL.rnd (x20_9 + 1) [1, 18, 19, 20] (fun _ _ h => h) (go2 hS hK1) rfl
 replace hS := it_f h21 hS
 replace hS := up2 hS hK1
 refine Zx ?_
 refine Zq (Zr ?_)
 refine Za ?_
 refine Zl ?_
 cases hS
 exact VC.ret (fin1 (.inr rfl) rfl rfl .nil rfl rfl (by (try dsimp only); exact InM.out) (fun _ _ => trivial))
theorem cmd_Parse_ct (s_0 : Str) {r : CmdCmdP × Err} (hS : Sh.cmd_Parse s_0 = some r) :
 Ct Tryz.prog 49 [str s_0] Mo.tt (Ow.emp) (X := CmdCmd × Er) (fun x => .tuple #[.agg (Dat.enc x.1).toArray, x.2.val]) (fun x => r = (x.1.pl, x.2.pl)) (fun x => (x.1.m.and x.2.ok)) (fun x => Ow.emp) := by
 refine Ct.of Tryz.func49 rfl (by kernel_rfl) Tryz.ntmps49 (by simp) fun c => ?_
 unfold Sh.cmd_Parse at hS
 refine Zq (Zr ?_)
 refine VL.alloc (cs := [str [], str [], i64 0, str [], .bool false, .slice none 0 0]) (by kernel_rfl) (by decide) fun b2_1 => ?_
 refine Za ?_
 refine Zl ?_
 refine Zq (Zr ?_)
 refine Zm ?_
 obtain ⟨y14_2, ey14_2, hS⟩ := bd_s hS
 refine VL.q (q_call (strings_Cut_ct s_0 [10] ey14_2) rfl (fun _ _ => rfl)) (by decide) ?_
 refine Zm ?_
 refine VL.q (q_extract rfl rfl) (by decide) ?_
 refine VL.q (q_extract rfl rfl) (by decide) ?_
 refine VL.q (q_extract rfl rfl) (by decide) ?_
 refine Za ?_
 refine Za ?_
 refine Za ?_
 refine Zl ?_
 refine VC.keep [2, 4, 5, 6] rfl ?_
 refine Zq (Zr ?_)
 refine Zm ?_
 obtain ⟨y20_3, ey20_3, hS⟩ := bd_s hS
 refine VL.callF (cmd_read_ct y14_2.1 ey20_3) rfl (by decide) ?_
 rintro ⟨q20_3_0, q20_3_1⟩ rfl
 try dsimp only
 refine Zm ?_
 refine VL.q (q_extract rfl rfl) (by decide) ?_
 refine VL.q (q_extract rfl rfl) (by decide) ?_
 refine VL.alloc (cs := [str [], str [], i64 0, str [], .bool false, .slice none 0 0]) (by kernel_rfl) (by decide) fun b7_4 => ?_
 refine VL.store (vc := [str q20_3_0.verb, str q20_3_0.name, i64 q20_3_0.n, str q20_3_0.text, .bool q20_3_0.force, q20_3_0.todo.val]) (cs' := [str q20_3_0.verb, str q20_3_0.name, i64 q20_3_0.n, str q20_3_0.text, .bool q20_3_0.force, q20_3_0.todo.val]) rfl rfl rfl gsz86 rfl rfl (Nat.le_of_ble_eq_true rfl) rfl ?_
 refine Za ?_
 refine Zl ?_
 refine VC.cutJ (S := Sv TodoStep) (fun (c5_5 : Sv TodoStep) => c5_5.l) (fun (c5_5 : Sv TodoStep) => [(2, ptr b2_1 0), (7, ptr b7_4 0)]) (fun (c5_5 : Sv TodoStep) => c5_5.ok) (fun (c5_5 : Sv TodoStep) => Ow.star (Blk b7_4 [str q20_3_0.verb, str q20_3_0.name, i64 q20_3_0.n, str q20_3_0.text, .bool q20_3_0.force, c5_5.val] 86) (Ow.star (Blk b2_1 [str [], str [], i64 0, str [], .bool false, .slice none 0 0] 86) (Ow.emp))) hS ?_ ?_
 ·
  clear hS
  intro k6 hS
  refine Zb (Zq (Zr ?_))
  refine VL.q (q_field gfa86_0 rfl) (by decide) ?_
  refine VL.q (q_fe gone9 rfl rfl) (by decide) ?_
  obtain ⟨y26_7, ey26_7, hS⟩ := bd_s hS
  refine VL.q (q_call (cmd_place_ct q20_3_0.verb ey26_7) rfl (fun _ _ => rfl)) (by decide) ?_
  refine VL.q (q_lss rfl rfl) (by decide) ?_
  refine Za ?_
  refine Zl ?_
  refine VC.keep [2, 5, 6, 7, 8, 23] rfl ?_
  refine VC.cond_dec rfl (fun h23 => ?_) (fun h23 => ?_)
  ·
   replace hS := it_t h23 hS
   refine Zq (Zr ?_)
   refine VL.q (q_build (vs := []) (cs := #[str [], str [], i64 0, str [], .bool false, .slice none 0 0]) rfl (by kernel_rfl)) (by decide) ?_
   refine VL.q (q_fes gagg86 rfl rfl) (by decide) ?_
   refine VL.q (q_mkif Tryz.underlying105 (fun _ h => by cases h) rfl) (by decide) ?_
   obtain ⟨y31_8, ey31_8, hS⟩ := bd_s hS
   refine VL.callF (cmd_fault_ct q20_3_0 (Er.no 5) ey31_8) rfl (by decide) ?_
   rintro q31_8_0 rfl
   try dsimp only
   refine VL.store (vc := [str [], str [], i64 0, str [], .bool false, .slice none 0 0]) (cs' := [str [], str [], i64 0, str [], .bool false, .slice none 0 0]) rfl rfl rfl gsz86 rfl rfl (Nat.le_of_ble_eq_true rfl) rfl ?_
   refine Za ?_
   refine Zl ?_
   refine VC.keep [2, 3] rfl ?_
   cases hS
   exact VC.ret (finG (vs := [.agg #[str [], str [], i64 0, str [], .bool false, .slice none 0 0], q31_8_0.val]) (.inr rfl) rfl (RVs.cell gagg86 rfl rfl Rd.blk (RVs.tmp rfl (RVs.nil))) (⟨[], [], 0, [], false, ⟨none, 0, []⟩⟩, q31_8_0) rfl rfl (by (try dsimp only); exact InM.out) (fun _ _ => trivial))
  replace hS := it_f h23 hS
  refine VC.cutJ (S := Bool) (fun (x32_9 : Bool) => x32_9) (fun (x32_9 : Bool) => [(2, ptr b2_1 0), (5, str y14_2.2.1), (7, ptr b7_4 0), (32, .bool x32_9)]) (fun (x32_9 : Bool) => Mo.tt) (fun (x32_9 : Bool) => Ow.star (Blk b7_4 [str q20_3_0.verb, str q20_3_0.name, i64 q20_3_0.n, str q20_3_0.text, .bool q20_3_0.force, q20_3_0.todo.val] 86) (Ow.star (Blk b2_1 [str [], str [], i64 0, str [], .bool false, .slice none 0 0] 86) (Ow.emp))) hS ?_ ?_
  ·
   clear hS
   intro k10 hS
   refine Zr ?_
   refine Zm ?_
   refine VL.q (q_not rfl) (by decide) ?_
   refine Zm ?_
   refine VL.split 35 rfl (fun h35 => ?_) (fun h35 => ?_)
   ·
    replace hS := it_t h35 hS
    refine Zn ?_
    refine Zn ?_
    refine VL.gu rfl rfl (by decide) ?_
    refine VL.gu rfl rfl (by decide) ?_
    refine VL.gu rfl rfl (by decide) ?_
    refine Zn ?_
    refine Zt ?_
    refine Za ?_
    refine VL.mt true [2, 5, 7, 32] (fun _ _ h => h) hS rfl
   replace hS := it_b h35 hS
   refine Zg ?_
   refine Zg ?_
   refine VL.split 37 rfl (fun h37 => ?_) (fun h37 => ?_)
   ·
    replace hS := it_t h37 hS
    refine VL.gy rfl rfl (q_field gfa86_0 rfl) (by decide) ?_
    refine VL.gy rfl rfl (q_fe gone9 rfl rfl) (by decide) ?_
    refine VL.gy rfl rfl (q_sne rfl rfl) (by decide) ?_
    refine VL.gy rfl rfl (q_pick_t rfl rfl) (by decide) ?_
    refine Zf ?_
    refine Za ?_
    refine VL.mt (!decide (q20_3_0.verb = [114, 101, 98, 97, 115, 101])) [2, 5, 7, 32] (fun _ _ h => h) hS rfl
   replace hS := it_b h37 hS
   refine Zn ?_
   refine Zn ?_
   refine Zn ?_
   refine VL.gy rfl rfl (q_pick_f rfl rfl) (by decide) ?_
   refine Zf ?_
   refine Za ?_
   refine VL.mt false [2, 5, 7, 32] (fun _ _ h => h) hS rfl
  clear hS
  rintro x32_9 hS
  show VC _ _ _ _ _ [(2, ptr b2_1 0), (5, str y14_2.2.1), (7, ptr b7_4 0), (32, .bool x32_9)] (Mo.and Mo.tt _) (Ow.star (Blk b7_4 [str q20_3_0.verb, str q20_3_0.name, i64 q20_3_0.n, str q20_3_0.text, .bool q20_3_0.force, q20_3_0.todo.val] 86) (Ow.star (Blk b2_1 [str [], str [], i64 0, str [], .bool false, .slice none 0 0] 86) (Ow.emp)))
  refine VC.cond rfl (fun h32 => ?_) (fun h32 => ?_)
  ·
   replace hS := it_t h32 hS
   refine Zq (Zr ?_)
   refine VL.q (q_build (vs := []) (cs := #[str [], str [], i64 0, str [], .bool false, .slice none 0 0]) rfl (by kernel_rfl)) (by decide) ?_
   refine VL.q (q_fes gagg86 rfl rfl) (by decide) ?_
   refine VL.q (q_mkif Tryz.underlying105 (fun _ h => by cases h) rfl) (by decide) ?_
   obtain ⟨y46_11, ey46_11, hS⟩ := bd_s hS
   refine VL.callF (cmd_fault_ct q20_3_0 (Er.no 2) ey46_11) rfl (by decide) ?_
   rintro q46_11_0 rfl
   try dsimp only
   refine VL.store (vc := [str [], str [], i64 0, str [], .bool false, .slice none 0 0]) (cs' := [str [], str [], i64 0, str [], .bool false, .slice none 0 0]) rfl rfl rfl gsz86 rfl rfl (Nat.le_of_ble_eq_true rfl) rfl ?_
   refine Za ?_
   refine Zl ?_
   cases hS
   exact VC.ret (finG (vs := [.agg #[str [], str [], i64 0, str [], .bool false, .slice none 0 0], q46_11_0.val]) (.inr rfl) rfl (RVs.cell gagg86 rfl rfl Rd.blk (RVs.tmp rfl (RVs.nil))) (⟨[], [], 0, [], false, ⟨none, 0, []⟩⟩, q46_11_0) rfl rfl (by (try dsimp only); exact InM.out) (fun _ _ => trivial))
  replace hS := it_b h32 hS
  refine Zq (Zr ?_)
  refine VL.q (q_field gfa86_0 rfl) (by decide) ?_
  refine VL.q (q_fe gone9 rfl rfl) (by decide) ?_
  refine Zs ?_
  refine Za ?_
  refine Zl ?_
  refine VC.cond_dec rfl (fun h47 => ?_) (fun h47 => ?_)
  ·
   replace hS := it_t h47 hS
   refine Zq (Zr ?_)
   refine Zm ?_
   obtain ⟨y53_12, ey53_12, hS⟩ := bd_s hS
   refine VL.callF (todo_Parse_ct y14_2.2.1 ey53_12) rfl (by decide) ?_
   rintro ⟨q53_12_0, q53_12_1⟩ rfl
   try dsimp only
   refine Zm ?_
   refine VL.q (q_extract rfl rfl) (by decide) ?_
   refine VL.q (q_extract rfl rfl) (by decide) ?_
   refine Za ?_
   refine Za ?_
   refine Zl ?_
   refine VC.keep [2, 7, 9, 10] rfl ?_
   refine Zq (Zq (Zr ?_))
   refine Zm ?_
   refine VL.q (q_erne Tryz.underlying27 rfl) (by decide) ?_
   refine Zl ?_
   refine VC.cond_ndec rfl (fun h57 => ?_) (fun h57 => ?_)
   ·
    replace hS := it_f h57 hS
    refine Zq (Zr ?_)
    refine VL.q (q_build (vs := []) (cs := #[str [], str [], i64 0, str [], .bool false, .slice none 0 0]) rfl (by kernel_rfl)) (by decide) ?_
    refine VL.q (q_fes gagg86 rfl rfl) (by decide) ?_
    refine Zm ?_
    obtain ⟨y61_13, ey61_13, hS⟩ := bd_s hS
    refine VL.callF (cmd_fault_ct q20_3_0 q53_12_1 ey61_13) rfl (by decide) ?_
    rintro q61_13_0 rfl
    try dsimp only
    refine VL.store (vc := [str [], str [], i64 0, str [], .bool false, .slice none 0 0]) (cs' := [str [], str [], i64 0, str [], .bool false, .slice none 0 0]) rfl rfl rfl gsz86 rfl rfl (Nat.le_of_ble_eq_true rfl) rfl ?_
    refine Za ?_
    refine Zl ?_
    refine VC.keep [2, 3] rfl ?_
    cases hS
    exact VC.ret (finG (vs := [.agg #[str [], str [], i64 0, str [], .bool false, .slice none 0 0], q61_13_0.val]) (.inr rfl) rfl (RVs.cell gagg86 rfl rfl Rd.blk (RVs.tmp rfl (RVs.nil))) (⟨[], [], 0, [], false, ⟨none, 0, []⟩⟩, q61_13_0) rfl rfl (by (try dsimp only); exact InM.out) (fun _ _ => trivial))
   replace hS := it_t h57 hS
   refine Zk ?_
   refine Zr ?_
   refine Zm ?_
   refine VL.q (q_field gfa86_5 rfl) (by decide) ?_
   refine VL.store (vc := [q53_12_0.val]) (cs' := [str q20_3_0.verb, str q20_3_0.name, i64 q20_3_0.n, str q20_3_0.text, .bool q20_3_0.force, q53_12_0.val]) rfl rfl rfl gsz84 rfl rfl (Nat.le_of_ble_eq_true rfl) rfl ?_
   refine VL.mt q53_12_0 [2, 7] (fun _ _ h => h) hS rfl
  replace hS := it_f h47 hS
  refine VC.skip_mt q20_3_0.todo [2, 7] (fun _ _ h => h) hS rfl
 clear hS
 rintro c5_5 hS
 show VC _ _ _ _ _ [(2, ptr b2_1 0), (7, ptr b7_4 0)] (Mo.and c5_5.ok _) (Ow.star (Blk b7_4 [str q20_3_0.verb, str q20_3_0.name, i64 q20_3_0.n, str q20_3_0.text, .bool q20_3_0.force, c5_5.val] 86) (Ow.star (Blk b2_1 [str [], str [], i64 0, str [], .bool false, .slice none 0 0] 86) (Ow.emp)))
 refine Zq (Zq (Zr ?_))
 refine VL.q (q_fes gagg86 rfl rfl) (by decide) ?_
 obtain ⟨y65_14, ey65_14, hS⟩ := bd_s hS
 refine VL.callF (cmd_Check_ct (⟨q20_3_0.verb, q20_3_0.name, q20_3_0.n, q20_3_0.text, q20_3_0.force, c5_5⟩ : CmdCmd) ey65_14) rfl (by decide) ?_
 rintro q65_14_0 rfl
 try dsimp only
 refine Za ?_
 refine Zl ?_
 refine Zq (Zr ?_)
 refine Zm ?_
 refine VL.q (q_erne Tryz.underlying27 rfl) (by decide) ?_
 refine Zl ?_
 refine VC.cond_ndec rfl (fun h67 => ?_) (fun h67 => ?_)
 ·
  replace hS := it_f h67 hS
  refine Zq (Zr ?_)
  refine VL.q (q_build (vs := []) (cs := #[str [], str [], i64 0, str [], .bool false, .slice none 0 0]) rfl (by kernel_rfl)) (by decide) ?_
  refine Zm ?_
  refine VL.store (vc := [str [], str [], i64 0, str [], .bool false, .slice none 0 0]) (cs' := [str [], str [], i64 0, str [], .bool false, .slice none 0 0]) rfl rfl rfl gsz86 rfl rfl (Nat.le_of_ble_eq_true rfl) rfl ?_
  refine Za ?_
  refine Zl ?_
  cases hS
  exact VC.ret (finG (vs := [.agg #[str [], str [], i64 0, str [], .bool false, .slice none 0 0], q65_14_0.val]) (.inr rfl) rfl (RVs.cell gagg86 rfl rfl Rd.blk (RVs.tmp rfl (RVs.nil))) (⟨[], [], 0, [], false, ⟨none, 0, []⟩⟩, q65_14_0) rfl rfl (by (try dsimp only); exact InM.out) (fun _ _ => trivial))
 replace hS := it_t h67 hS
 refine Zk ?_
 refine Zq (Zr ?_)
 refine VL.q (q_fes gagg86 rfl rfl) (by decide) ?_
 refine VL.store (vc := [str q20_3_0.verb, str q20_3_0.name, i64 q20_3_0.n, str q20_3_0.text, .bool q20_3_0.force, c5_5.val]) (cs' := [str q20_3_0.verb, str q20_3_0.name, i64 q20_3_0.n, str q20_3_0.text, .bool q20_3_0.force, c5_5.val]) rfl rfl rfl gsz86 rfl rfl (Nat.le_of_ble_eq_true rfl) rfl ?_
 refine Za ?_
 refine Zl ?_
 cases hS
 exact VC.ret (finG (vs := [.agg #[str q20_3_0.verb, str q20_3_0.name, i64 q20_3_0.n, str q20_3_0.text, .bool q20_3_0.force, c5_5.val], .nilIface]) (.inr rfl) rfl (RVs.cell gagg86 rfl rfl Rd.blk (RVs.tmp rfl (RVs.nil))) (⟨q20_3_0.verb, q20_3_0.name, q20_3_0.n, q20_3_0.text, q20_3_0.force, c5_5⟩, .nil) rfl rfl (by (try dsimp only); exact InM.out) (fun _ _ => trivial))
theorem cmd_has_ct (c_0 : CmdCmd) {r : Bool × Bool × Bool × Bool} (hS : Sh.cmd_has c_0.pl = some r) :
 Ct Tryz.prog 120 [.agg #[str c_0.verb, str c_0.name, i64 c_0.n, str c_0.text, .bool c_0.force, c_0.todo.val]] c_0.todo.ok (Ow.emp) (X := Unit) (fun _ => .tuple #[.bool r.1, .bool r.2.1, .bool r.2.2.1, .bool r.2.2.2]) (fun _ => True) (fun _ => Mo.tt) (fun _ => Ow.emp) := by
 refine Ct.of Tryz.func120 rfl (by kernel_rfl) Tryz.ntmps120 (by simp) fun c => ?_
 unfold Sh.cmd_has at hS
 refine Zq (Zr ?_)
 refine VL.box (cs := [str c_0.verb, str c_0.name, i64 c_0.n, str c_0.text, .bool c_0.force, c_0.todo.val]) rfl rfl (by decide) fun b1_1 => ?_
 refine Za ?_
 refine Za ?_
 refine Za ?_
 refine Za ?_
 refine Zl ?_
 refine VC.cutJ (S := Bool × Bool × Bool × Bool) (fun sg => (sg.1, sg.2.1, sg.2.2.1, sg.2.2.2)) (fun sg => [(1, ptr b1_1 0), (2, .bool sg.1), (3, .bool sg.2.1), (4, .bool sg.2.2.1), (5, .bool sg.2.2.2)]) (fun sg => Mo.tt) (fun sg => Ow.star (Blk b1_1 [str c_0.verb, str c_0.name, i64 c_0.n, str c_0.text, .bool c_0.force, c_0.todo.val] 86) (Ow.emp)) hS ?_ ?_
 ·
  clear hS
  intro k6 hS
  refine Zq (Zr ?_)
  refine VL.q (q_field gfa86_0 rfl) (by decide) ?_
  refine VL.q (q_fe gone9 rfl rfl) (by decide) ?_
  refine Zl ?_
  refine Zb ?_
  refine VC.cutJ (S := Unit) (fun (_ : Unit) => ()) (fun (_ : Unit) => [(1, ptr b1_1 0), (2, .bool false), (3, .bool false), (4, .bool false)]) (fun (_ : Unit) => Mo.tt) (fun (_ : Unit) => Ow.star (Blk b1_1 [str c_0.verb, str c_0.name, i64 c_0.n, str c_0.text, .bool c_0.force, c_0.todo.val] 86) (Ow.emp)) hS ?_ ?_
  ·
   clear hS
   intro k7 hS
   refine Zb (Zq (Zb ?_))
   refine VC.cutJ (S := Unit) (fun (_ : Unit) => ()) (fun (_ : Unit) => [(1, ptr b1_1 0), (4, .bool false), (5, .bool false)]) (fun (_ : Unit) => Mo.tt) (fun (_ : Unit) => Ow.star (Blk b1_1 [str c_0.verb, str c_0.name, i64 c_0.n, str c_0.text, .bool c_0.force, c_0.todo.val] 86) (Ow.emp)) hS ?_ ?_
   ·
    clear hS
    intro k8 hS
    refine Zb ?_
    refine VC.cutJ (S := Bool) (fun (forced4_9 : Bool) => forced4_9) (fun (forced4_9 : Bool) => [(1, ptr b1_1 0), (3, .bool false), (4, .bool forced4_9), (5, .bool false)]) (fun (forced4_9 : Bool) => Mo.tt) (fun (forced4_9 : Bool) => Ow.star (Blk b1_1 [str c_0.verb, str c_0.name, i64 c_0.n, str c_0.text, .bool c_0.force, c_0.todo.val] 86) (Ow.emp)) hS ?_ ?_
    ·
     clear hS
     intro k10 hS
     refine Zb (Zq (Zb (Zq (Zb (Zq (Zq (Zq (Zr ?_))))))))
     refine Zs ?_
     refine Za ?_
     refine Zl ?_
     refine VC.cond_dec rfl (fun h8 => ?_) (fun h8 => ?_)
     ·
      replace hS := it_t h8 hS
      refine Zx ?_
      refine Zq (Zq (Zr ?_))
      refine VL.q (q_field gfa86_1 rfl) (by decide) ?_
      refine VL.q (q_fe gone9 rfl rfl) (by decide) ?_
      refine Zs ?_
      refine Za ?_
      refine Za ?_
      refine Zl ?_
      refine VC.keep [1, 3, 4, 5] rfl ?_
      refine Zr ?_
      refine Zm ?_
      refine VL.q (q_not rfl) (by decide) ?_
      refine Za ?_
      refine Zl ?_
      refine VC.exit_mt ((!decide (c_0.name = [])), (decide (c_0.name = [])), true, false) [1, 2, 3, 4, 5] (fun _ _ h => h) hS rfl
     replace hS := it_f h8 hS
     refine Zk ?_
     refine Zq (Zq (Zr ?_))
     refine Zs ?_
     refine Za ?_
     refine Zl ?_
     refine VC.cond_dec rfl (fun h10 => ?_) (fun h10 => ?_)
     ·
      replace hS := it_t h10 hS
      refine Zx ?_
      refine VC.keep [1, 3, 5] rfl ?_
      refine Zr ?_
      refine Za ?_
      refine VL.mt true [1, 3, 4, 5] (fun _ _ h => h) hS rfl
     replace hS := it_f h10 hS
     refine Zk ?_
     refine VC.cutJ (S := Unit) (fun (_ : Unit) => ()) (fun (_ : Unit) => [(1, ptr b1_1 0), (2, .bool false), (3, .bool false), (4, .bool false), (5, .bool false), (7, str c_0.verb)]) (fun (_ : Unit) => Mo.tt) (fun (_ : Unit) => Ow.star (Blk b1_1 [str c_0.verb, str c_0.name, i64 c_0.n, str c_0.text, .bool c_0.force, c_0.todo.val] 86) (Ow.emp)) hS ?_ ?_
     ·
      clear hS
      intro k11 hS
      refine Zq (Zq (Zr ?_))
      refine Zs ?_
      refine Za ?_
      refine Zl ?_
      refine VC.keep [1, 2, 3, 4, 5, 7, 12] rfl ?_
      refine VC.cond_dec rfl (fun h12 => ?_) (fun h12 => ?_)
      ·
       replace hS := it_t h12 hS
       refine Zk ?_
       refine VC.cond_dec rfl (fun h12 => ?_) (fun h12 => ?_)
       ·
        replace hS := it_t h12 hS
        refine VC.exit_mt false [1, 3, 4, 5] (fun _ _ h => h) hS rfl
       replace hS := it_f h12 hS
       refine VC.skip_mt () [1, 2, 3, 4, 5, 7] (fun _ _ h => h) hS rfl
      replace hS := it_f h12 hS
      refine Zq (Zr ?_)
      refine Zs ?_
      refine Za ?_
      refine Zl ?_
      refine VC.cond_dec rfl (fun h12 => ?_) (fun h12 => ?_)
      ·
       replace hS := it_t h12 hS
       refine Zk ?_
       refine VC.cond_dec rfl (fun h12 => ?_) (fun h12 => ?_)
       ·
        replace hS := it_t h12 hS
        refine VC.exit_mt false [1, 3, 4, 5] (fun _ _ h => h) hS rfl
       replace hS := it_f h12 hS
       refine VC.skip_mt () [1, 2, 3, 4, 5, 7] (fun _ _ h => h) hS rfl
      replace hS := it_f h12 hS
      refine Zq (Zr ?_)
      refine Zs ?_
      refine Za ?_
      refine Zl ?_
      refine VC.cond_dec rfl (fun h12 => ?_) (fun h12 => ?_)
      ·
       replace hS := it_t h12 hS
       refine Zk ?_
       refine VC.cond_dec rfl (fun h12 => ?_) (fun h12 => ?_)
       ·
        replace hS := it_t h12 hS
        refine VC.exit_mt false [1, 3, 4, 5] (fun _ _ h => h) hS rfl
       replace hS := it_f h12 hS
       refine VC.skip_mt () [1, 2, 3, 4, 5, 7] (fun _ _ h => h) hS rfl
      replace hS := it_f h12 hS
      refine Zr ?_
      refine Zs ?_
      refine Za ?_
      refine Zl ?_
      refine VC.cond_dec rfl (fun h12 => ?_) (fun h12 => ?_)
      ·
       replace hS := it_t h12 hS
       refine VC.exit_mt false [1, 3, 4, 5] (fun _ _ h => h) hS rfl
      replace hS := it_f h12 hS
      refine VC.skip_mt () [1, 2, 3, 4, 5, 7] (fun _ _ h => h) hS rfl
     clear hS
     rintro _ hS
     show VC _ _ _ _ _ [(1, ptr b1_1 0), (2, .bool false), (3, .bool false), (4, .bool false), (5, .bool false), (7, str c_0.verb)] (Mo.and Mo.tt _) (Ow.star (Blk b1_1 [str c_0.verb, str c_0.name, i64 c_0.n, str c_0.text, .bool c_0.force, c_0.todo.val] 86) (Ow.emp))
     refine Zq (Zq (Zr ?_))
     refine Zs ?_
     refine Za ?_
     refine Zl ?_
     refine VC.cond_dec rfl (fun h17 => ?_) (fun h17 => ?_)
     ·
      replace hS := it_t h17 hS
      refine VC.exit_mt () [1, 4, 5] (fun _ _ h => h) hS rfl
     replace hS := it_f h17 hS
     refine Zk ?_
     refine VC.cutJ (S := Unit) (fun (_ : Unit) => ()) (fun (_ : Unit) => [(1, ptr b1_1 0), (2, .bool false), (3, .bool false), (4, .bool false), (5, .bool false), (7, str c_0.verb)]) (fun (_ : Unit) => Mo.tt) (fun (_ : Unit) => Ow.star (Blk b1_1 [str c_0.verb, str c_0.name, i64 c_0.n, str c_0.text, .bool c_0.force, c_0.todo.val] 86) (Ow.emp)) hS ?_ ?_
     ·
      clear hS
      intro k12 hS
      refine Zq (Zq (Zr ?_))
      refine Zs ?_
      refine Za ?_
      refine Zl ?_
      refine VC.cond_dec rfl (fun h19 => ?_) (fun h19 => ?_)
      ·
       replace hS := it_t h19 hS
       refine Zk ?_
       refine VC.cond_dec rfl (fun h19 => ?_) (fun h19 => ?_)
       ·
        replace hS := it_t h19 hS
        refine Zx ?_
        refine Zq (Zr ?_)
        refine Za ?_
        refine Zl ?_
        refine VC.exit_mt (false, true, false, false) [1, 2, 3, 4, 5] (fun _ _ h => h) hS rfl
       replace hS := it_f h19 hS
       refine VC.skip_mt () [1, 2, 3, 4, 5, 7] (fun _ _ h => h) hS rfl
      replace hS := it_f h19 hS
      refine Zq (Zr ?_)
      refine Zs ?_
      refine Za ?_
      refine Zl ?_
      refine VC.cond_dec rfl (fun h19 => ?_) (fun h19 => ?_)
      ·
       replace hS := it_t h19 hS
       refine Zk ?_
       refine VC.cond_dec rfl (fun h19 => ?_) (fun h19 => ?_)
       ·
        replace hS := it_t h19 hS
        refine Zx ?_
        refine VC.keep [1, 2, 4, 5] rfl ?_
        refine Zq (Zr ?_)
        refine Za ?_
        refine Zl ?_
        refine VC.exit_mt (false, true, false, false) [1, 2, 3, 4, 5] (fun _ _ h => h) hS rfl
       replace hS := it_f h19 hS
       refine VC.skip_mt () [1, 2, 3, 4, 5, 7] (fun _ _ h => h) hS rfl
      replace hS := it_f h19 hS
      refine Zq (Zr ?_)
      refine Zs ?_
      refine Za ?_
      refine Zl ?_
      refine VC.cond_dec rfl (fun h19 => ?_) (fun h19 => ?_)
      ·
       replace hS := it_t h19 hS
       refine Zk ?_
       refine VC.cond_dec rfl (fun h19 => ?_) (fun h19 => ?_)
       ·
        replace hS := it_t h19 hS
        refine Zx ?_
        refine VC.keep [1, 2, 4, 5] rfl ?_
        refine Zq (Zr ?_)
        refine Za ?_
        refine Zl ?_
        refine VC.exit_mt (false, true, false, false) [1, 2, 3, 4, 5] (fun _ _ h => h) hS rfl
       replace hS := it_f h19 hS
       refine VC.skip_mt () [1, 2, 3, 4, 5, 7] (fun _ _ h => h) hS rfl
      replace hS := it_f h19 hS
      refine Zq (Zr ?_)
      refine Zs ?_
      refine Za ?_
      refine Zl ?_
      refine VC.cond_dec rfl (fun h19 => ?_) (fun h19 => ?_)
      ·
       replace hS := it_t h19 hS
       refine Zk ?_
       refine VC.cond_dec rfl (fun h19 => ?_) (fun h19 => ?_)
       ·
        replace hS := it_t h19 hS
        refine Zx ?_
        refine VC.keep [1, 2, 4, 5] rfl ?_
        refine Zq (Zr ?_)
        refine Za ?_
        refine Zl ?_
        refine VC.exit_mt (false, true, false, false) [1, 2, 3, 4, 5] (fun _ _ h => h) hS rfl
       replace hS := it_f h19 hS
       refine VC.skip_mt () [1, 2, 3, 4, 5, 7] (fun _ _ h => h) hS rfl
      replace hS := it_f h19 hS
      refine Zq (Zr ?_)
      refine Zs ?_
      refine Za ?_
      refine Zl ?_
      refine VC.keep [1, 2, 3, 4, 5, 7, 19] rfl ?_
      refine VC.cond_dec rfl (fun h19 => ?_) (fun h19 => ?_)
      ·
       replace hS := it_t h19 hS
       refine Zk ?_
       refine VC.cond_dec rfl (fun h19 => ?_) (fun h19 => ?_)
       ·
        replace hS := it_t h19 hS
        refine Zx ?_
        refine Zq (Zr ?_)
        refine Za ?_
        refine Zl ?_
        refine VC.exit_mt (false, true, false, false) [1, 2, 3, 4, 5] (fun _ _ h => h) hS rfl
       replace hS := it_f h19 hS
       refine VC.skip_mt () [1, 2, 3, 4, 5, 7] (fun _ _ h => h) hS rfl
      replace hS := it_f h19 hS
      refine Zr ?_
      refine Zs ?_
      refine Za ?_
      refine Zl ?_
      refine VC.cond_dec rfl (fun h19 => ?_) (fun h19 => ?_)
      ·
       replace hS := it_t h19 hS
       refine Zx ?_
       refine Zq (Zr ?_)
       refine Za ?_
       refine Zl ?_
       refine VC.exit_mt (false, true, false, false) [1, 2, 3, 4, 5] (fun _ _ h => h) hS rfl
      replace hS := it_f h19 hS
      refine VC.skip_mt () [1, 2, 3, 4, 5, 7] (fun _ _ h => h) hS rfl
     clear hS
     rintro _ hS
     show VC _ _ _ _ _ [(1, ptr b1_1 0), (2, .bool false), (3, .bool false), (4, .bool false), (5, .bool false), (7, str c_0.verb)] (Mo.and Mo.tt _) (Ow.star (Blk b1_1 [str c_0.verb, str c_0.name, i64 c_0.n, str c_0.text, .bool c_0.force, c_0.todo.val] 86) (Ow.emp))
     refine Zq (Zq (Zr ?_))
     refine Zs ?_
     refine Za ?_
     refine Zl ?_
     refine VC.cond_dec rfl (fun h26 => ?_) (fun h26 => ?_)
     ·
      replace hS := it_t h26 hS
      refine Zk ?_
      refine VC.cond_dec rfl (fun h26 => ?_) (fun h26 => ?_)
      ·
       replace hS := it_t h26 hS
       refine VC.exit_mt () [1, 2, 3, 4] (fun _ _ h => h) hS rfl
      replace hS := it_f h26 hS
      refine Zk ?_
      refine VC.exit_mt (false, false, false, false) [1, 2, 3, 4, 5] (fun _ _ h => h) hS rfl
     replace hS := it_f h26 hS
     refine Zr ?_
     refine Zs ?_
     refine Za ?_
     refine Zl ?_
     refine VC.cond_dec rfl (fun h26 => ?_) (fun h26 => ?_)
     ·
      replace hS := it_t h26 hS
      refine VC.exit_mt () [1, 2, 3, 4] (fun _ _ h => h) hS rfl
     replace hS := it_f h26 hS
     refine Zk ?_
     refine VC.exit_mt (false, false, false, false) [1, 2, 3, 4, 5] (fun _ _ h => h) hS rfl
    clear hS
    rintro forced4_9 hS
    show VC _ _ _ _ _ [(1, ptr b1_1 0), (3, .bool false), (4, .bool forced4_9), (5, .bool false)] (Mo.and Mo.tt _) (Ow.star (Blk b1_1 [str c_0.verb, str c_0.name, i64 c_0.n, str c_0.text, .bool c_0.force, c_0.todo.val] 86) (Ow.emp))
    refine Zq (Zr ?_)
    refine VL.q (q_field gfa86_1 rfl) (by decide) ?_
    refine VL.q (q_fe gone9 rfl rfl) (by decide) ?_
    refine VL.q (q_sne rfl rfl) (by decide) ?_
    refine Za ?_
    refine Zl ?_
    refine VC.exit_mt ((!decide (c_0.name = [])), false, forced4_9, false) [1, 2, 3, 4, 5] (fun _ _ h => h) hS rfl
   clear hS
   rintro _ hS
   show VC _ _ _ _ _ [(1, ptr b1_1 0), (4, .bool false), (5, .bool false)] (Mo.and Mo.tt _) (Ow.star (Blk b1_1 [str c_0.verb, str c_0.name, i64 c_0.n, str c_0.text, .bool c_0.force, c_0.todo.val] 86) (Ow.emp))
   refine Zr ?_
   refine VL.q (q_field gfa86_1 rfl) (by decide) ?_
   refine VL.q (q_fe gone9 rfl rfl) (by decide) ?_
   refine VL.q (q_sne rfl rfl) (by decide) ?_
   refine Za ?_
   refine Zl ?_
   refine Zq (Zr ?_)
   refine Za ?_
   refine Zl ?_
   refine VC.exit_mt ((!decide (c_0.name = [])), true, false, false) [1, 2, 3, 4, 5] (fun _ _ h => h) hS rfl
  clear hS
  rintro _ hS
  show VC _ _ _ _ _ [(1, ptr b1_1 0), (2, .bool false), (3, .bool false), (4, .bool false)] (Mo.and Mo.tt _) (Ow.star (Blk b1_1 [str c_0.verb, str c_0.name, i64 c_0.n, str c_0.text, .bool c_0.force, c_0.todo.val] 86) (Ow.emp))
  refine Zq (Zr ?_)
  refine VL.q (q_field gfa86_3 rfl) (by decide) ?_
  refine VL.q (q_fe gone9 rfl rfl) (by decide) ?_
  refine VL.q (q_sne rfl rfl) (by decide) ?_
  refine Za ?_
  refine Zl ?_
  refine VC.exit_mt (false, false, false, (!decide (c_0.text = []))) [1, 2, 3, 4, 5] (fun _ _ h => h) hS rfl
 clear hS
 rintro ⟨named2_2, numbered3_3, forced4_4, told5_5⟩ hS
 show VC _ _ _ _ _ [(1, ptr b1_1 0), (2, .bool named2_2), (3, .bool numbered3_3), (4, .bool forced4_4), (5, .bool told5_5)] (Mo.and Mo.tt _) (Ow.star (Blk b1_1 [str c_0.verb, str c_0.name, i64 c_0.n, str c_0.text, .bool c_0.force, c_0.todo.val] 86) (Ow.emp))
 refine Zq ?_
 refine VC.draw ((List.range 12).map fun k => (k, true)) mixed (by kernel_rfl) (by kernel_rfl) (by kernel_rfl) ?_
 refine VD.q rfl (q_move rfl) (by decide) ?_
 refine VD.q rfl (q_move rfl) (by decide) ?_
 refine VD.q rfl (q_move rfl) (by decide) ?_
 refine VD.q rfl (q_move rfl) (by decide) ?_
 refine VD.split 46 rfl (fun h46 => ?_) (fun h46 => ?_)
 ·
  replace hS := it_t h46 hS
  refine VD.gy rfl rfl rfl (q_field gfa86_4 rfl) (by decide) ?_
  refine VD.gy rfl rfl rfl (q_fe gone4 rfl rfl) (by decide) ?_
  refine VD.q rfl (q_pick_t rfl rfl) (by decide) ?_
  refine VD.q rfl (q_move rfl) (by decide) ?_
  refine VD.q rfl (q_assign rfl) (by decide) ?_
  refine VD.q rfl (q_assign rfl) (by decide) ?_
  refine VD.q rfl (q_assign rfl) (by decide) ?_
  refine VD.q rfl (q_assign rfl) (by decide) ?_
  refine VD.to (fun _ _ h => h) ?_
  refine VC.keep [2, 3, 4, 5] rfl ?_
  cases hS
  exact VC.ret (finG (vs := [.bool named2_2, .bool numbered3_3, .bool c_0.force, .bool told5_5]) (.inr rfl) rfl (RVs.tmp rfl (RVs.tmp rfl (RVs.tmp rfl (RVs.tmp rfl (RVs.nil))))) () rfl trivial (by (try dsimp only); exact InM.out) (fun _ _ => trivial))
 replace hS := it_b h46 hS
 refine Zd ?_
 refine Zd ?_
 refine VD.q rfl (q_pick_f rfl rfl) (by decide) ?_
 refine VD.q rfl (q_move rfl) (by decide) ?_
 refine VD.q rfl (q_assign rfl) (by decide) ?_
 refine VD.q rfl (q_assign rfl) (by decide) ?_
 refine VD.q rfl (q_assign rfl) (by decide) ?_
 refine VD.q rfl (q_assign rfl) (by decide) ?_
 refine VD.to (fun _ _ h => h) ?_
 refine VC.keep [2, 3, 4, 5] rfl ?_
 cases hS
 exact VC.ret (finG (vs := [.bool named2_2, .bool numbered3_3, .bool false, .bool told5_5]) (.inr rfl) rfl (RVs.tmp rfl (RVs.tmp rfl (RVs.tmp rfl (RVs.tmp rfl (RVs.nil))))) () rfl trivial (by (try dsimp only); exact InM.out) (fun _ _ => trivial))
theorem itoa_ct (n : Int) (b : Go.S.I64 n) : Ct Tryz.prog 121 [i64 n] Gl Ow.emp (X := Unit) (fun _ => str (Go.S.itoaS n)) (fun _ => True) (fun _ => Mo.tt) (fun _ => Ow.emp) :=
  Ct.of_gr (entry_of Tryz.func121 rfl (by kernel_rfl)) fun w h m l => (Tryz.strconv_Itoa n b.1 b.2 w (GBlk.var (by kernel_rfl) (InM.out (X := GBlk 2 _) h m) l)).mono fun e w' ⟨h1, k, os, h2⟩ => ⟨by rw [h1, itoaS_eq b], h2 ▸ Gr.grown w k os⟩
theorem join_ct (s : Sv Str) (sep : Str) (hb : s.l.length ≤ 4294967296 ∧ (Go.S.joinS s.l sep).length ≤ 4294967296) : Ct Tryz.prog 122 [s.val, str sep] s.ok Ow.emp (X := Unit) (fun _ => str (Go.S.joinS s.l sep)) (fun _ => True) (fun _ => Mo.tt) (fun _ => Ow.emp) :=
  Ct.of_gr (entry_of Tryz.func122 rfl (by kernel_rfl)) fun w h m l => by
    by_cases hl : s.l = []
    · have := Tryz.strings_Join_none s.a s.c ⟨⟨sep⟩⟩ w
      have e1 : s.val = .slice s.a 0 s.c := by unfold Sv.val; rw [hl]; rfl
      rw [e1]
      exact this.mono fun e w' ⟨h1, h2⟩ => ⟨by rw [h1, hl]; rfl, h2 ▸ Gr.refl w⟩
    · obtain ⟨h1, _, h3, h4, _⟩ := m
      have ha := h3 hl
      have hx : (s.l.map fun z => (⟨⟨z⟩⟩ : ByteArray)).map (·.data.toList) = s.l := by rw [List.map_map]; exact (List.map_congr_left fun z _ => rfl).trans (List.map_id _)
      have hc : ∀ (j : Nat) x, (s.l.map fun z => (⟨⟨z⟩⟩ : ByteArray))[j]? = some x → w.cell? ⟨s.b, s.o + j, none⟩ = some (.string x) := fun j x hj => by
        rw [List.getElem?_map] at hj
        cases hz : s.l[j]? with
        | none => rw [hz] at hj; cases hj
        | some z =>
          rw [hz] at hj; cases hj
          have := h4 j z hz 0 (str z) rfl
          have hs : Dat.sz Str = 1 := rfl
          rw [hs, Nat.mul_one] at this
          exact cell_of_le l (by simpa using this)
      have hlt : s.b < w.heap.size := by
        have h0 : 0 < s.l.length := List.length_pos_iff.2 hl
        have := hc 0 ⟨⟨s.l[0]⟩⟩ (by simp [h0])
        rcases Nat.lt_or_ge s.b w.heap.size with q | q
        · exact q
        · simp [World.cell?, Array.getElem?_eq_none q] at this
      have := Tryz.strings_Join s.b s.o s.c (s.l.map fun z => ⟨⟨z⟩⟩) ⟨⟨sep⟩⟩ w hc hlt (by rw [List.length_map]; omega) (by rw [List.length_map]; exact h1) (by rw [hx]; have := hb.2; unfold Go.S.joinS at this; show (Lib.join s.l sep).length ≤ _; omega)
      rw [hx, List.length_map] at this
      have e1 : s.val = .slice (some ⟨s.b, s.o, none⟩) s.l.length s.c := by unfold Sv.val; rw [ha]
      rw [e1]
      exact this.mono fun e w' ⟨h1, h2⟩ => ⟨h1, Gr.of_below h2⟩
theorem todo_Text_ct (l_0 : Sv TodoStep) {r : Str} (hS : Sh.todo_Text l_0.l = some r) :
 Ct Tryz.prog 123 [l_0.val] (l_0.ok.and Gl) (Ow.emp) (X := Unit) (fun _ => str r) (fun _ => True) (fun _ => Mo.tt) (fun _ => Ow.emp) := by
 refine Ct.of Tryz.func123 rfl (by kernel_rfl) Tryz.ntmps123 (by simp) fun c => ?_
 unfold Sh.todo_Text at hS
 refine Zq (Zr ?_)
 refine Za ?_
 refine Zl ?_
 refine Zq (Zr ?_)
 refine VL.alloc (cs := [.pointer none, .slice none 0 0]) (by kernel_rfl) (by decide) fun b3_1 => ?_
 refine VL.toBd 5 b3_1 ?_
 refine Zl ?_
 refine Zq (Zq (Zr ?_))
 refine Zm ?_
 refine VL.q (q_ln (s := l_0) Tryz.underlying84 rfl) (by decide) ?_
 refine Zm ?_
 refine Zl ?_
 refine Zb ?_
 refine VC.iter (S := Int × Str) (fun sg => (sg.1, sg.2)) (fun sg => [(3, ptr b3_1 0), (6, l_0.val), (7, i64 (l_0.l.length : Int)), (8, i64 sg.1)]) (fun sg => Mo.tt) (fun sg => Ow.star (Bd 274 5 b3_1 sg.2) (Ow.emp)) (0, []) [3, 6, 7, 8] hS rfl ?_
 clear hS
 rintro ⟨x8_2, acc_3⟩ m1 y1 hS hK1
 show VC _ _ _ _ _ [(3, ptr b3_1 0), (6, l_0.val), (7, i64 (l_0.l.length : Int)), (8, i64 x8_2)] (Mo.and Mo.tt _) (Ow.star (Bd 274 5 b3_1 acc_3) (Ow.emp))
 refine Zq (Zr ?_)
 refine VL.q (q_lss rfl rfl) (by decide) ?_
 refine Zl ?_
 refine Zq ?_
 refine VC.cond_dec rfl (fun h9 => ?_) (fun h9 => ?_)
 ·
  replace hS := it_t h9 hS
  refine Zk ?_
  refine Zq (Zb (Zq (Zr ?_)))
  obtain ⟨z10_4, nz10_4, hz10_4, hS⟩ := at_s hS
  refine VL.q (q_ixm (s := l_0) Tryz.underlying84 gsz173 rfl rfl nz10_4 (lt_of_get nz10_4 hz10_4)) (by decide) ?_
  refine VL.q (q_els (s := l_0) gagg173 rfl rfl hz10_4) (by decide) ?_
  refine VL.alloc (cs := [str [], i64 0, str []]) (by kernel_rfl) (by decide) fun b5_5 => ?_
  refine VL.store (vc := [str z10_4.verb, i64 z10_4.commit, str z10_4.text]) (cs' := [str z10_4.verb, i64 z10_4.commit, str z10_4.text]) rfl rfl rfl gsz173 rfl rfl (Nat.le_of_ble_eq_true rfl) rfl ?_
  refine Zl ?_
  refine Zq ?_
  refine VC.draw [(0, true), (1, true), (2, true), (3, true), (4, true), (5, true), (6, true), (7, false)] mixed (by kernel_rfl) (by kernel_rfl) (by kernel_rfl) ?_
  refine VD.q rfl (q_field gfa173_0 rfl) (by decide) ?_
  refine VD.q rfl (q_fe gone9 rfl rfl) (by decide) ?_
  obtain ⟨b14, hS⟩ := gd_s hS
  obtain ⟨y14_6, ey14_6, hS⟩ := lt_s hS
  refine VD.q rfl (q_catE rfl rfl b14 ey14_6) (by decide) ?_
  refine VD.q rfl (q_field gfa173_1 rfl) (by decide) ?_
  refine VD.q rfl (q_fe gone3 rfl rfl) (by decide) ?_
  obtain ⟨b17, hS⟩ := gd_s hS
  refine VD.q rfl (q_call (itoa_ct z10_4.commit b17) rfl (fun _ _ => rfl)) (by decide) ?_
  obtain ⟨b18, hS⟩ := gd_s hS
  obtain ⟨y18_7, ey18_7, hS⟩ := lt_s hS
  refine VD.q rfl (q_catE rfl rfl b18 ey18_7) (by decide) ?_
  refine VD.one rfl ?_
  obtain ⟨b19, hS⟩ := gd_s hS
  refine VL.callO (writeString_ct b3_1 acc_3 y18_7 b19) rfl (by decide) ?_
  rintro _ _
  obtain ⟨acc19_8, eacc19_8, hS⟩ := lt_s hS
  rw [eacc19_8]
  refine VL.back (D' := []) (by kernel_rfl) (Pend.nil) ?_
  refine VD.to (fun _ _ h => h) ?_
  refine VC.keep [3, 6, 7, 8, 5] rfl ?_
  refine Zq (Zq (Zr ?_))
  refine VL.q (q_field gfa173_0 rfl) (by decide) ?_
  refine VL.q (q_fe gone9 rfl rfl) (by decide) ?_
  refine Zs ?_
  refine Zl ?_
  refine VC.cond_dec rfl (fun h22 => ?_) (fun h22 => ?_)
  ·
   replace hS := it_t h22 hS
   refine Zr ?_
   refine VL.q (q_field gfa173_2 rfl) (by decide) ?_
   refine VL.q (q_fe gone9 rfl rfl) (by decide) ?_
   obtain ⟨b25, hS⟩ := gd_s hS
   obtain ⟨y25_9, ey25_9, hS⟩ := lt_s hS
   refine VL.q (q_catE rfl rfl b25 ey25_9) (by decide) ?_
   obtain ⟨b26, hS⟩ := gd_s hS
   refine VL.callO (writeString_ct b3_1 acc19_8 y25_9 b26) rfl (by decide) ?_
   rintro _ _
   obtain ⟨acc26_10, eacc26_10, hS⟩ := lt_s hS
   rw [eacc26_10]
   refine Zl ?_
   refine VC.keep [3, 6, 7, 8] rfl ?_
   refine Zr ?_
   obtain ⟨b27, hS⟩ := gd_s hS
   refine VL.callO (writeString_ct b3_1 acc26_10 [10] b27) rfl (by decide) ?_
   rintro _ _
   obtain ⟨acc27_11, eacc27_11, hS⟩ := lt_s hS
   rw [eacc27_11]
   refine Zl ?_
   refine Zr ?_
   obtain ⟨b28, hS⟩ := gd_s hS
   refine VL.q (q_add rfl rfl b28) (by decide) ?_
   refine Zm ?_
   refine VL.rnd ((x8_2 + 1), acc27_11) [3, 6, 7, 8] (fun _ _ h => h) (go2 hS hK1) rfl
  replace hS := it_f h22 hS
  refine Zk ?_
  refine Zr ?_
  obtain ⟨b27, hS⟩ := gd_s hS
  refine VL.callO (writeString_ct b3_1 acc19_8 [10] b27) rfl (by decide) ?_
  rintro _ _
  obtain ⟨acc27_12, eacc27_12, hS⟩ := lt_s hS
  rw [eacc27_12]
  refine Zl ?_
  refine Zr ?_
  obtain ⟨b28, hS⟩ := gd_s hS
  refine VL.q (q_add rfl rfl b28) (by decide) ?_
  refine Zm ?_
  refine VL.rnd ((x8_2 + 1), acc27_12) [3, 6, 7, 8] (fun _ _ h => h) (go2 hS hK1) rfl
 replace hS := it_f h9 hS
 replace hS := up2 hS hK1
 refine Zx ?_
 refine Zq (Zr ?_)
 refine VL.callO (string_ct b3_1 acc_3) rfl (by decide) ?_
 rintro _ _
 refine Za ?_
 refine Zl ?_
 cases hS
 exact Ze
theorem cmd_Text_ct (c_0 : CmdCmd) {r : Str} (hS : Sh.cmd_Text c_0.pl = some r) :
 Ct Tryz.prog 47 [.agg #[str c_0.verb, str c_0.name, i64 c_0.n, str c_0.text, .bool c_0.force, c_0.todo.val]] (c_0.todo.ok.and Gl) (Ow.emp) (X := Unit) (fun _ => str r) (fun _ => True) (fun _ => Mo.tt) (fun _ => Ow.emp) := by
 refine Ct.of Tryz.func47 rfl (by kernel_rfl) Tryz.ntmps47 (by simp) fun c => ?_
 unfold Sh.cmd_Text at hS
 refine Zq (Zr ?_)
 refine VL.box (cs := [str c_0.verb, str c_0.name, i64 c_0.n, str c_0.text, .bool c_0.force, c_0.todo.val]) rfl rfl (by decide) fun b1_1 => ?_
 refine Za ?_
 refine Zl ?_
 refine Zq (Zr ?_)
 refine VL.q (q_fes gagg86 rfl rfl) (by decide) ?_
 obtain ⟨y11_2, ey11_2, hS⟩ := bd_s hS
 refine VL.q (q_call (cmd_has_ct c_0 ey11_2) rfl (fun _ _ => rfl)) (by decide) ?_
 refine Zm ?_
 refine VL.q (q_extract rfl rfl) (by decide) ?_
 refine VL.q (q_extract rfl rfl) (by decide) ?_
 refine VL.q (q_extract rfl rfl) (by decide) ?_
 refine VL.q (q_extract rfl rfl) (by decide) ?_
 refine Za ?_
 refine Za ?_
 refine Za ?_
 refine Za ?_
 refine Zl ?_
 refine VC.keep [1, 3, 4, 5, 6] rfl ?_
 refine Zq (Zr ?_)
 refine VL.q (q_field gfa86_0 rfl) (by decide) ?_
 refine VL.q (q_fe gone9 rfl rfl) (by decide) ?_
 refine VL.litO (α := Str) (xs := [.tmp 17]) (vs := [str c_0.verb]) [c_0.verb] Tryz.underlying32 glit9 (by decide) rfl rfl rfl rfl (by decide) (by decide) (fun s18_3 hs18_3 => ?_) (by decide)
 replace hS := lt_to hs18_3 hS
 refine Za ?_
 refine Zl ?_
 refine VC.cutJ (S := Sv Str) (fun (out7_5 : Sv Str) => out7_5.l) (fun (out7_5 : Sv Str) => [(1, ptr b1_1 0), (4, .bool y11_2.2.1), (5, .bool y11_2.2.2.1), (6, .bool y11_2.2.2.2), (7, out7_5.val)]) (fun (out7_5 : Sv Str) => Mo.tt) (fun (out7_5 : Sv Str) => Ow.star (Blk b1_1 [str c_0.verb, str c_0.name, i64 c_0.n, str c_0.text, .bool c_0.force, c_0.todo.val] 86) (Ow.star (Sv.own out7_5 9) (Ow.emp))) hS ?_ ?_
 ·
  clear hS
  intro k6 hS
  refine Zq (Zr ?_)
  refine Zm ?_
  refine Zl ?_
  refine VC.cond rfl (fun h19 => ?_) (fun h19 => ?_)
  ·
   replace hS := it_t h19 hS
   refine Zr ?_
   refine Zm ?_
   refine VL.q (q_field gfa86_1 rfl) (by decide) ?_
   refine VL.q (q_fe gone9 rfl rfl) (by decide) ?_
   refine VL.lit (α := Str) (xs := [.tmp 22]) (vs := [str c_0.name]) [c_0.name] Tryz.underlying32 glit9 (by decide) rfl rfl rfl rfl (by decide) (fun _ _ _ _ => trivial) (by decide) (fun s23_7 hs23_7 => ?_) (by decide)
   replace hS := lt_to hs23_7 hS
   obtain ⟨b24, hS⟩ := gd_s hS
   refine VL.app (s := s18_3) (r := s23_7) Tryz.underlying32 gapp9 (by decide) rfl Fo.out (ap1 b24) (ap2 b24 (by decide)) (by decide) (fun s24_9 hs24_9 => ?_)
   replace hS := lt_to hs24_9 hS
   refine Za ?_
   refine VL.mt s24_9 [1, 4, 5, 6, 7] (fun _ _ h => h) hS rfl
  replace hS := it_b h19 hS
  refine VC.skip_mt s18_3 [1, 4, 5, 6, 7] (fun _ _ h => h) hS rfl
 clear hS
 rintro out7_5 hS
 show VC _ _ _ _ _ [(1, ptr b1_1 0), (4, .bool y11_2.2.1), (5, .bool y11_2.2.2.1), (6, .bool y11_2.2.2.2), (7, out7_5.val)] (Mo.and Mo.tt _) (Ow.star (Blk b1_1 [str c_0.verb, str c_0.name, i64 c_0.n, str c_0.text, .bool c_0.force, c_0.todo.val] 86) (Ow.star (Sv.own out7_5 9) (Ow.emp)))
 refine VC.cutJ (S := Sv Str) (fun (out7_11 : Sv Str) => out7_11.l) (fun (out7_11 : Sv Str) => [(1, ptr b1_1 0), (5, .bool y11_2.2.2.1), (6, .bool y11_2.2.2.2), (7, out7_11.val)]) (fun (out7_11 : Sv Str) => Mo.tt) (fun (out7_11 : Sv Str) => Ow.star (Blk b1_1 [str c_0.verb, str c_0.name, i64 c_0.n, str c_0.text, .bool c_0.force, c_0.todo.val] 86) (Ow.star (Sv.own out7_11 9) (Ow.emp))) hS ?_ ?_
 ·
  clear hS
  intro k12 hS
  refine Zq (Zr ?_)
  refine Zm ?_
  refine Zl ?_
  refine VC.cond rfl (fun h25 => ?_) (fun h25 => ?_)
  ·
   replace hS := it_t h25 hS
   refine Zr ?_
   refine Zm ?_
   refine VL.q (q_field gfa86_2 rfl) (by decide) ?_
   refine VL.q (q_fe gone3 rfl rfl) (by decide) ?_
   obtain ⟨b29, hS⟩ := gd_s hS
   refine VL.q (q_call (itoa_ct c_0.n b29) rfl (fun _ _ => rfl)) (by decide) ?_
   refine VL.lit (α := Str) (xs := [.tmp 29]) (vs := [str (itoaS c_0.n)]) [(itoaS c_0.n)] Tryz.underlying32 glit9 (by decide) rfl rfl rfl rfl (by decide) (fun _ _ _ _ => trivial) (by decide) (fun s30_13 hs30_13 => ?_) (by decide)
   replace hS := lt_to hs30_13 hS
   obtain ⟨b31, hS⟩ := gd_s hS
   refine VL.app (s := out7_5) (r := s30_13) Tryz.underlying32 gapp9 (by decide) rfl Fo.out (ap1 b31) (ap2 b31 (by decide)) (by decide) (fun s31_15 hs31_15 => ?_)
   replace hS := lt_to hs31_15 hS
   refine Za ?_
   refine VL.mt s31_15 [1, 5, 6, 7] (fun _ _ h => h) hS rfl
  replace hS := it_b h25 hS
  refine VC.skip_mt out7_5 [1, 5, 6, 7] (fun _ _ h => h) hS rfl
 clear hS
 rintro out7_11 hS
 show VC _ _ _ _ _ [(1, ptr b1_1 0), (5, .bool y11_2.2.2.1), (6, .bool y11_2.2.2.2), (7, out7_11.val)] (Mo.and Mo.tt _) (Ow.star (Blk b1_1 [str c_0.verb, str c_0.name, i64 c_0.n, str c_0.text, .bool c_0.force, c_0.todo.val] 86) (Ow.star (Sv.own out7_11 9) (Ow.emp)))
 refine VC.cutJ (S := Sv Str) (fun (out7_17 : Sv Str) => out7_17.l) (fun (out7_17 : Sv Str) => [(1, ptr b1_1 0), (6, .bool y11_2.2.2.2), (7, out7_17.val)]) (fun (out7_17 : Sv Str) => Mo.tt) (fun (out7_17 : Sv Str) => Ow.star (Blk b1_1 [str c_0.verb, str c_0.name, i64 c_0.n, str c_0.text, .bool c_0.force, c_0.todo.val] 86) (Ow.star (Sv.own out7_17 9) (Ow.emp))) hS ?_ ?_
 ·
  clear hS
  intro k18 hS
  refine Zq (Zr ?_)
  refine Zm ?_
  refine Zl ?_
  refine VC.cond rfl (fun h32 => ?_) (fun h32 => ?_)
  ·
   replace hS := it_t h32 hS
   refine Zr ?_
   refine Zm ?_
   refine VL.lit (α := Str) (xs := [.const (str [45, 102])]) (vs := [str [45, 102]]) [[45, 102]] Tryz.underlying32 glit9 (by decide) rfl rfl rfl rfl (by decide) (fun _ _ _ _ => trivial) (by decide) (fun s34_19 hs34_19 => ?_) (by decide)
   replace hS := lt_to hs34_19 hS
   obtain ⟨b35, hS⟩ := gd_s hS
   refine VL.app (s := out7_11) (r := s34_19) Tryz.underlying32 gapp9 (by decide) rfl Fo.out (ap1 b35) (ap2 b35 (by decide)) (by decide) (fun s35_21 hs35_21 => ?_)
   replace hS := lt_to hs35_21 hS
   refine Za ?_
   refine VL.mt s35_21 [1, 6, 7] (fun _ _ h => h) hS rfl
  replace hS := it_b h32 hS
  refine VC.skip_mt out7_11 [1, 6, 7] (fun _ _ h => h) hS rfl
 clear hS
 rintro out7_17 hS
 show VC _ _ _ _ _ [(1, ptr b1_1 0), (6, .bool y11_2.2.2.2), (7, out7_17.val)] (Mo.and Mo.tt _) (Ow.star (Blk b1_1 [str c_0.verb, str c_0.name, i64 c_0.n, str c_0.text, .bool c_0.force, c_0.todo.val] 86) (Ow.star (Sv.own out7_17 9) (Ow.emp)))
 refine VC.cutJ (S := Sv Str) (fun (out7_23 : Sv Str) => out7_23.l) (fun (out7_23 : Sv Str) => [(1, ptr b1_1 0), (7, out7_23.val)]) (fun (out7_23 : Sv Str) => Mo.tt) (fun (out7_23 : Sv Str) => Ow.star (Blk b1_1 [str c_0.verb, str c_0.name, i64 c_0.n, str c_0.text, .bool c_0.force, c_0.todo.val] 86) (Ow.star (Sv.own out7_23 9) (Ow.emp))) hS ?_ ?_
 ·
  clear hS
  intro k24 hS
  refine Zq (Zr ?_)
  refine Zm ?_
  refine Zl ?_
  refine VC.cond rfl (fun h36 => ?_) (fun h36 => ?_)
  ·
   replace hS := it_t h36 hS
   refine Zr ?_
   refine Zm ?_
   refine VL.q (q_field gfa86_3 rfl) (by decide) ?_
   refine VL.q (q_fe gone9 rfl rfl) (by decide) ?_
   refine VL.lit (α := Str) (xs := [.tmp 39]) (vs := [str c_0.text]) [c_0.text] Tryz.underlying32 glit9 (by decide) rfl rfl rfl rfl (by decide) (fun _ _ _ _ => trivial) (by decide) (fun s40_25 hs40_25 => ?_) (by decide)
   replace hS := lt_to hs40_25 hS
   obtain ⟨b41, hS⟩ := gd_s hS
   refine VL.app (s := out7_17) (r := s40_25) Tryz.underlying32 gapp9 (by decide) rfl Fo.out (ap1 b41) (ap2 b41 (by decide)) (by decide) (fun s41_27 hs41_27 => ?_)
   replace hS := lt_to hs41_27 hS
   refine Za ?_
   refine VL.mt s41_27 [1, 7] (fun _ _ h => h) hS rfl
  replace hS := it_b h36 hS
  refine VC.skip_mt out7_17 [1, 7] (fun _ _ h => h) hS rfl
 clear hS
 rintro out7_23 hS
 show VC _ _ _ _ _ [(1, ptr b1_1 0), (7, out7_23.val)] (Mo.and Mo.tt _) (Ow.star (Blk b1_1 [str c_0.verb, str c_0.name, i64 c_0.n, str c_0.text, .bool c_0.force, c_0.todo.val] 86) (Ow.star (Sv.own out7_23 9) (Ow.emp)))
 refine Zq (Zr ?_)
 refine Zm ?_
 obtain ⟨b43, hS⟩ := gd_s hS
 obtain ⟨y43_29, ey43_29, hS⟩ := lt_s hS
 refine VL.q (q_callR (join_ct out7_23 [32] b43) rfl (fun _ _ => congrArg str ey43_29)) (by decide) ?_
 refine Za ?_
 refine Zl ?_
 refine Zq (Zq (Zr ?_))
 refine VL.q (q_field gfa86_0 rfl) (by decide) ?_
 refine VL.q (q_fe gone9 rfl rfl) (by decide) ?_
 refine Zs ?_
 refine Zl ?_
 refine VC.cond_dec rfl (fun h46 => ?_) (fun h46 => ?_)
 ·
  replace hS := it_t h46 hS
  refine Zr ?_
  refine Zm ?_
  refine VL.q (q_field gfa86_5 rfl) (by decide) ?_
  refine VL.q (q_fe gone84 rfl rfl) (by decide) ?_
  obtain ⟨y50_30, ey50_30, hS⟩ := bd_s hS
  refine VL.q (q_call (todo_Text_ct c_0.todo ey50_30) rfl (fun _ _ => rfl)) (by decide) ?_
  obtain ⟨b51, hS⟩ := gd_s hS
  obtain ⟨y51_31, ey51_31, hS⟩ := lt_s hS
  refine VL.q (q_catE rfl rfl b51 ey51_31) (by decide) ?_
  obtain ⟨b52, hS⟩ := gd_s hS
  obtain ⟨y52_32, ey52_32, hS⟩ := lt_s hS
  refine VL.q (q_catE rfl rfl b52 ey52_32) (by decide) ?_
  refine Za ?_
  refine Zl ?_
  refine VC.keep [8] rfl ?_
  refine Zq (Zr ?_)
  refine Zm ?_
  refine Za ?_
  refine Zl ?_
  cases hS
  exact Ze
 replace hS := it_f h46 hS
 refine Zk ?_
 refine Zq (Zr ?_)
 refine Zm ?_
 refine Za ?_
 refine Zl ?_
 cases hS
 exact Ze
theorem slices_Equal_todo_Step_todo_Step_ct (s1_0 : Sv TodoStep) (s2_1 : Sv TodoStep) {r : Bool} (hS : Sh.slices_Equal_todo_Step_todo_Step s1_0.l s2_1.l = some r) :
 Ct Tryz.prog 186 [s1_0.val, s2_1.val] (s1_0.ok.and s2_1.ok) (Ow.emp) (X := Unit) (fun _ => .bool r) (fun _ => True) (fun _ => Mo.tt) (fun _ => Ow.emp) := by
 refine Ct.of Tryz.func186 rfl (by kernel_rfl) Tryz.ntmps186 (by simp) fun c => ?_
 unfold Sh.slices_Equal_todo_Step_todo_Step at hS
 refine Zq (Zr ?_)
 refine Za ?_
 refine Zl ?_
 refine Zq (Zq (Zr ?_))
 refine Zm ?_
 refine VL.q (q_ln (s := s1_0) Tryz.underlying84 rfl) (by decide) ?_
 refine Zm ?_
 refine VL.q (q_ln (s := s2_1) Tryz.underlying84 rfl) (by decide) ?_
 refine VL.q (q_neq rfl rfl) (by decide) ?_
 refine Zl ?_
 refine VC.cond_ndec rfl (fun h10 => ?_) (fun h10 => ?_)
 ·
  replace hS := it_f h10 hS
  refine Zq (Zr ?_)
  refine Za ?_
  refine Zl ?_
  cases hS
  exact Ze
 replace hS := it_t h10 hS
 refine Zk ?_
 refine Zq (Zq (Zr ?_))
 refine Zm ?_
 refine VL.q (q_ln (s := s1_0) Tryz.underlying84 rfl) (by decide) ?_
 refine Zm ?_
 refine Zl ?_
 refine VC.keep [0, 1, 12, 13] rfl ?_
 refine Zb ?_
 refine VC.iter (S := Int) (fun (x13_1 : Int) => x13_1) (fun (x13_1 : Int) => [(0, s1_0.val), (1, s2_1.val), (12, i64 (s1_0.l.length : Int)), (13, i64 x13_1)]) (fun (x13_1 : Int) => Mo.tt) (fun (x13_1 : Int) => Ow.emp) 0 [0, 1, 12, 13] hS rfl ?_
 clear hS
 rintro x13_1 m1 y1 hS hK1
 show VC _ _ _ _ _ [(0, s1_0.val), (1, s2_1.val), (12, i64 (s1_0.l.length : Int)), (13, i64 x13_1)] (Mo.and Mo.tt _) (Ow.emp)
 refine Zq (Zr ?_)
 refine VL.q (q_lss rfl rfl) (by decide) ?_
 refine Zl ?_
 refine Zq ?_
 refine VC.cond_dec rfl (fun h14 => ?_) (fun h14 => ?_)
 ·
  replace hS := it_t h14 hS
  refine Zk ?_
  refine Zq (Zb (Zq (Zr ?_)))
  refine Zm ?_
  refine Za ?_
  refine Zl ?_
  refine Zq ?_
  refine VC.draw ((List.range 9).map fun k => (k, true)) mixed (by kernel_rfl) (by kernel_rfl) (by kernel_rfl) ?_
  refine VD.q rfl (q_move rfl) (by decide) ?_
  refine VD.q rfl (q_move rfl) (by decide) ?_
  obtain ⟨z18_2, nz18_2, hz18_2, hS⟩ := at_s hS
  refine VD.q rfl (q_ixm (s := s1_0) Tryz.underlying84 gsz173 rfl rfl nz18_2 (lt_of_get nz18_2 hz18_2)) (by decide) ?_
  refine VD.q rfl (q_els (s := s1_0) gagg173 rfl rfl hz18_2) (by decide) ?_
  refine VD.q rfl (q_move rfl) (by decide) ?_
  refine VD.q rfl (q_move rfl) (by decide) ?_
  obtain ⟨z22_3, nz22_3, hz22_3, hS⟩ := at_s hS
  refine VD.q rfl (q_ixm (s := s2_1) Tryz.underlying84 gsz173 rfl rfl nz22_3 (lt_of_get nz22_3 hz22_3)) (by decide) ?_
  refine VD.q rfl (q_els (s := s2_1) gagg173 rfl rfl hz22_3) (by decide) ?_
  refine VD.q rfl (q_stneq geqg173 (geqs173 z18_2.verb z18_2.commit z18_2.text z22_3.verb z22_3.commit z22_3.text) rfl rfl) (by decide) ?_
  refine VD.to (fun _ _ h => h) ?_
  refine VC.keep [0, 1, 12, 13, 24] rfl ?_
  refine VC.cond_ndec rfl (fun h24 => ?_) (fun h24 => ?_)
  ·
   replace hS := it_f h24 hS
   refine Zq (Zr ?_)
   refine Za ?_
   refine Zl ?_
   replace hS := up2 hS hK1
   cases hS
   exact Ze
  replace hS := it_t h24 hS
  refine Zk ?_
  refine Zr ?_
  obtain ⟨b25, hS⟩ := gd_s hS
  refine VL.q (q_add rfl rfl b25) (by decide) ?_
  refine Zm ?_
  refine VL.rnd (x13_1 + 1) [0, 1, 12, 13] (fun _ _ h => h) (go2 hS hK1) rfl
 replace hS := it_f h14 hS
 replace hS := up2 hS hK1
 refine Zx ?_
 refine Zq (Zr ?_)
 refine Za ?_
 refine Zl ?_
 cases hS
 exact Ze
theorem cmd_Same_ct (a_0 : CmdCmd) (b_1 : CmdCmd) {r : Bool} (hS : Sh.cmd_Same a_0.pl b_1.pl = some r) :
 Ct Tryz.prog 104 [.agg #[str a_0.verb, str a_0.name, i64 a_0.n, str a_0.text, .bool a_0.force, a_0.todo.val], .agg #[str b_1.verb, str b_1.name, i64 b_1.n, str b_1.text, .bool b_1.force, b_1.todo.val]] (a_0.todo.ok.and b_1.todo.ok) (Ow.emp) (X := Unit) (fun _ => .bool r) (fun _ => True) (fun _ => Mo.tt) (fun _ => Ow.emp) := by
 refine Ct.of Tryz.func104 rfl (by kernel_rfl) Tryz.ntmps104 (by simp) fun c => ?_
 unfold Sh.cmd_Same at hS
 refine Zq (Zr ?_)
 refine VL.box (cs := [str a_0.verb, str a_0.name, i64 a_0.n, str a_0.text, .bool a_0.force, a_0.todo.val]) rfl rfl (by decide) fun b2_1 => ?_
 refine VL.box (cs := [str b_1.verb, str b_1.name, i64 b_1.n, str b_1.text, .bool b_1.force, b_1.todo.val]) rfl rfl (by decide) fun b3_2 => ?_
 refine Za ?_
 refine Zl ?_
 refine Zq (Zr ?_)
 refine VL.q (q_field gfa86_0 rfl) (by decide) ?_
 refine VL.q (q_fe gone9 rfl rfl) (by decide) ?_
 refine VL.q (q_field gfa86_0 rfl) (by decide) ?_
 refine VL.q (q_fe gone9 rfl rfl) (by decide) ?_
 refine Zs ?_
 refine Zm ?_
 refine VL.split_dec 10 rfl (fun h10 => ?_) (fun h10 => ?_)
 ·
  replace hS := it_t h10 hS
  refine VL.gy rfl rfl (q_field gfa86_1 rfl) (by decide) ?_
  refine VL.gy rfl rfl (q_fe gone9 rfl rfl) (by decide) ?_
  refine VL.gy rfl rfl (q_field gfa86_1 rfl) (by decide) ?_
  refine VL.gy rfl rfl (q_fe gone9 rfl rfl) (by decide) ?_
  refine VL.gy rfl rfl (q_seq rfl rfl) (by decide) ?_
  refine Zt ?_
  refine Zm ?_
  refine VL.split_dec 17 rfl (fun h17 => ?_) (fun h17 => ?_)
  ·
   replace hS := it_t h17 hS
   refine VL.gy rfl rfl (q_field gfa86_2 rfl) (by decide) ?_
   refine VL.gy rfl rfl (q_fe gone3 rfl rfl) (by decide) ?_
   refine VL.gy rfl rfl (q_field gfa86_2 rfl) (by decide) ?_
   refine VL.gy rfl rfl (q_fe gone3 rfl rfl) (by decide) ?_
   refine VL.gy rfl rfl (q_eql rfl rfl) (by decide) ?_
   refine Zt ?_
   refine Zm ?_
   refine VL.split_dec 24 rfl (fun h24 => ?_) (fun h24 => ?_)
   ·
    replace hS := it_t h24 hS
    refine VL.gy rfl rfl (q_field gfa86_3 rfl) (by decide) ?_
    refine VL.gy rfl rfl (q_fe gone9 rfl rfl) (by decide) ?_
    refine VL.gy rfl rfl (q_field gfa86_3 rfl) (by decide) ?_
    refine VL.gy rfl rfl (q_fe gone9 rfl rfl) (by decide) ?_
    refine VL.gy rfl rfl (q_seq rfl rfl) (by decide) ?_
    refine Zt ?_
    refine Zm ?_
    refine VL.split_dec 31 rfl (fun h31 => ?_) (fun h31 => ?_)
    ·
     replace hS := it_t h31 hS
     refine VL.gy rfl rfl (q_field gfa86_4 rfl) (by decide) ?_
     refine VL.gy rfl rfl (q_fe gone4 rfl rfl) (by decide) ?_
     refine VL.gy rfl rfl (q_field gfa86_4 rfl) (by decide) ?_
     refine VL.gy rfl rfl (q_fe gone4 rfl rfl) (by decide) ?_
     refine VL.gy rfl rfl (q_beql Tryz.underlying4 rfl rfl) (by decide) ?_
     refine Zt ?_
     refine Zm ?_
     refine VL.split_dec 38 rfl (fun h38 => ?_) (fun h38 => ?_)
     ·
      replace hS := it_t h38 hS
      refine VL.gy rfl rfl (q_field gfa86_5 rfl) (by decide) ?_
      refine VL.gy rfl rfl (q_fe gone84 rfl rfl) (by decide) ?_
      refine VL.gy rfl rfl (q_field gfa86_5 rfl) (by decide) ?_
      refine VL.gy rfl rfl (q_fe gone84 rfl rfl) (by decide) ?_
      obtain ⟨y43_3, ey43_3, hS⟩ := bd_s hS
      refine VL.gy rfl rfl (q_call (slices_Equal_todo_Step_todo_Step_ct a_0.todo b_1.todo ey43_3) rfl (fun _ _ => rfl)) (by decide) ?_
      refine Zt ?_
      refine Za ?_
      refine Zl ?_
      refine VC.keep [4] rfl ?_
      cases hS
      exact Ze
     replace hS := it_f h38 hS
     refine Zn ?_
     refine Zn ?_
     refine Zn ?_
     refine Zn ?_
     refine Zn ?_
     refine Zf ?_
     refine Za ?_
     refine Zl ?_
     refine VC.keep [4] rfl ?_
     cases hS
     exact Ze
    replace hS := it_f h31 hS
    refine Zn ?_
    refine Zn ?_
    refine Zn ?_
    refine Zn ?_
    refine Zn ?_
    refine Zf ?_
    refine Zm ?_
    refine Zn ?_
    refine Zn ?_
    refine Zn ?_
    refine Zn ?_
    refine Zn ?_
    refine Zf ?_
    refine Za ?_
    refine Zl ?_
    refine VC.keep [4] rfl ?_
    cases hS
    exact Ze
   replace hS := it_f h24 hS
   refine Zn ?_
   refine Zn ?_
   refine Zn ?_
   refine Zn ?_
   refine Zn ?_
   refine Zf ?_
   refine Zm ?_
   refine Zn ?_
   refine Zn ?_
   refine Zn ?_
   refine Zn ?_
   refine Zn ?_
   refine Zf ?_
   refine Zm ?_
   refine Zn ?_
   refine Zn ?_
   refine Zn ?_
   refine Zn ?_
   refine Zn ?_
   refine Zf ?_
   refine Za ?_
   refine Zl ?_
   refine VC.keep [4] rfl ?_
   cases hS
   exact Ze
  replace hS := it_f h17 hS
  refine Zn ?_
  refine Zn ?_
  refine Zn ?_
  refine Zn ?_
  refine Zn ?_
  refine Zf ?_
  refine Zm ?_
  refine Zn ?_
  refine Zn ?_
  refine Zn ?_
  refine Zn ?_
  refine Zn ?_
  refine Zf ?_
  refine Zm ?_
  refine Zn ?_
  refine Zn ?_
  refine Zn ?_
  refine Zn ?_
  refine Zn ?_
  refine Zf ?_
  refine Zm ?_
  refine Zn ?_
  refine Zn ?_
  refine Zn ?_
  refine Zn ?_
  refine Zn ?_
  refine Zf ?_
  refine Za ?_
  refine Zl ?_
  refine VC.keep [4] rfl ?_
  cases hS
  exact Ze
 replace hS := it_f h10 hS
 refine Zn ?_
 refine Zn ?_
 refine Zn ?_
 refine Zn ?_
 refine Zn ?_
 refine Zf ?_
 refine Zm ?_
 refine Zn ?_
 refine Zn ?_
 refine Zn ?_
 refine Zn ?_
 refine Zn ?_
 refine Zf ?_
 refine Zm ?_
 refine Zn ?_
 refine Zn ?_
 refine Zn ?_
 refine Zn ?_
 refine Zn ?_
 refine Zf ?_
 refine Zm ?_
 refine Zn ?_
 refine Zn ?_
 refine Zn ?_
 refine Zn ?_
 refine Zn ?_
 refine Zf ?_
 refine Zm ?_
 refine Zn ?_
 refine Zn ?_
 refine Zn ?_
 refine Zn ?_
 refine Zn ?_
 refine Zf ?_
 refine Za ?_
 refine Zl ?_
 refine VC.keep [4] rfl ?_
 cases hS
 exact Ze
theorem rectolaw22_known_ct  {r : Bool} (hS : Sh.rectolaw22_known = some r) :
 Ct Tryz.prog 38 [] Gl (Ow.emp) (X := Unit) (fun _ => .bool r) (fun _ => True) (fun _ => Mo.tt) (fun _ => Ow.emp) := by
 refine Ct.of Tryz.func38 rfl (by kernel_rfl) Tryz.ntmps38 (by simp) fun c => ?_
 unfold Sh.rectolaw22_known at hS
 refine Zq (Zr ?_)
 refine Za ?_
 refine Zl ?_
 refine Zq (Zr ?_)
 obtain ⟨y11_1, ey11_1, hS⟩ := bd_s hS
 refine VL.callF (cmd_Parse_ct [114, 101, 115, 101, 116, 32, 104, 97, 114, 100, 32, 51] ey11_1) rfl (by decide) ?_
 rintro ⟨q11_1_0, q11_1_1⟩ rfl
 try dsimp only
 refine Zm ?_
 refine VL.q (q_extract rfl rfl) (by decide) ?_
 refine VL.q (q_extract rfl rfl) (by decide) ?_
 refine VL.alloc (cs := [str [], str [], i64 0, str [], .bool false, .slice none 0 0]) (by kernel_rfl) (by decide) fun b1_2 => ?_
 refine VL.store (vc := [str q11_1_0.verb, str q11_1_0.name, i64 q11_1_0.n, str q11_1_0.text, .bool q11_1_0.force, q11_1_0.todo.val]) (cs' := [str q11_1_0.verb, str q11_1_0.name, i64 q11_1_0.n, str q11_1_0.text, .bool q11_1_0.force, q11_1_0.todo.val]) rfl rfl rfl gsz86 rfl rfl (Nat.le_of_ble_eq_true rfl) rfl ?_
 refine Za ?_
 refine Zl ?_
 refine Zq (Zr ?_)
 obtain ⟨y15_3, ey15_3, hS⟩ := bd_s hS
 refine VL.callF (cmd_Parse_ct [114, 101, 98, 97, 115, 101, 32, 50, 10, 112, 105, 99, 107, 32, 51, 10] ey15_3) rfl (by decide) ?_
 rintro ⟨q15_3_0, q15_3_1⟩ rfl
 try dsimp only
 refine Zm ?_
 refine VL.q (q_extract rfl rfl) (by decide) ?_
 refine VL.q (q_extract rfl rfl) (by decide) ?_
 refine VL.alloc (cs := [str [], str [], i64 0, str [], .bool false, .slice none 0 0]) (by kernel_rfl) (by decide) fun b3_4 => ?_
 refine VL.store (vc := [str q15_3_0.verb, str q15_3_0.name, i64 q15_3_0.n, str q15_3_0.text, .bool q15_3_0.force, q15_3_0.todo.val]) (cs' := [str q15_3_0.verb, str q15_3_0.name, i64 q15_3_0.n, str q15_3_0.text, .bool q15_3_0.force, q15_3_0.todo.val]) rfl rfl rfl gsz86 rfl rfl (Nat.le_of_ble_eq_true rfl) rfl ?_
 refine Za ?_
 refine Zl ?_
 refine VC.keep [1, 2, 3, 4] rfl ?_
 refine Zq (Zr ?_)
 obtain ⟨y19_5, ey19_5, hS⟩ := bd_s hS
 refine VL.callF (cmd_Parse_ct [106, 117, 109, 112] ey19_5) rfl (by decide) ?_
 rintro ⟨q19_5_0, q19_5_1⟩ rfl
 try dsimp only
 refine Zm ?_
 refine VL.q (q_extract rfl rfl) (by decide) ?_
 refine VL.q (q_extract rfl rfl) (by decide) ?_
 refine VL.alloc (cs := [str [], str [], i64 0, str [], .bool false, .slice none 0 0]) (by kernel_rfl) (by decide) fun b5_6 => ?_
 refine VL.store (vc := [str q19_5_0.verb, str q19_5_0.name, i64 q19_5_0.n, str q19_5_0.text, .bool q19_5_0.force, q19_5_0.todo.val]) (cs' := [str q19_5_0.verb, str q19_5_0.name, i64 q19_5_0.n, str q19_5_0.text, .bool q19_5_0.force, q19_5_0.todo.val]) rfl rfl rfl gsz86 rfl rfl (Nat.le_of_ble_eq_true rfl) rfl ?_
 refine Za ?_
 refine Zl ?_
 refine Zq (Zr ?_)
 obtain ⟨y23_7, ey23_7, hS⟩ := bd_s hS
 refine VL.callF (cmd_Parse_ct [99, 111, 109, 109, 105, 116] ey23_7) rfl (by decide) ?_
 rintro ⟨q23_7_0, q23_7_1⟩ rfl
 try dsimp only
 refine Zm ?_
 refine VL.q (q_extract rfl rfl) (by decide) ?_
 refine VL.q (q_extract rfl rfl) (by decide) ?_
 refine VL.alloc (cs := [str [], str [], i64 0, str [], .bool false, .slice none 0 0]) (by kernel_rfl) (by decide) fun b7_8 => ?_
 refine VL.store (vc := [str q23_7_0.verb, str q23_7_0.name, i64 q23_7_0.n, str q23_7_0.text, .bool q23_7_0.force, q23_7_0.todo.val]) (cs' := [str q23_7_0.verb, str q23_7_0.name, i64 q23_7_0.n, str q23_7_0.text, .bool q23_7_0.force, q23_7_0.todo.val]) rfl rfl rfl gsz86 rfl rfl (Nat.le_of_ble_eq_true rfl) rfl ?_
 refine Za ?_
 refine Zl ?_
 refine VC.keep [1, 2, 3, 4, 6, 8] rfl ?_
 refine Zq (Zr ?_)
 obtain ⟨y26_9, ey26_9, hS⟩ := bd_s hS
 refine VL.callF (cmd_Verbs_ct ey26_9) rfl (by decide) ?_
 rintro q26_9_0 rfl
 try dsimp only
 refine Za ?_
 refine Zl ?_
 refine Zq (Zr ?_)
 refine Zm ?_
 refine VL.q (q_ereq Tryz.underlying27 rfl) (by decide) ?_
 refine Zm ?_
 refine VL.split_dec 29 rfl (fun h29 => ?_) (fun h29 => ?_)
 ·
  replace hS := it_t h29 hS
  refine Zg ?_
  refine VL.gy rfl rfl (q_ereq Tryz.underlying27 rfl) (by decide) ?_
  refine Zt ?_
  refine Zm ?_
  refine VL.split_dec 33 rfl (fun h33 => ?_) (fun h33 => ?_)
  ·
   replace hS := it_t h33 hS
   refine Zg ?_
   refine VL.gy rfl rfl (q_erne Tryz.underlying27 rfl) (by decide) ?_
   refine Zt ?_
   refine Zm ?_
   refine VL.split_ndec 37 rfl (fun h37 => ?_) (fun h37 => ?_)
   ·
    replace hS := it_f h37 hS
    refine Zg ?_
    refine VL.gy rfl rfl (q_erne Tryz.underlying27 rfl) (by decide) ?_
    refine Zt ?_
    refine Zm ?_
    refine VL.split_ndec 41 rfl (fun h41 => ?_) (fun h41 => ?_)
    ·
     replace hS := it_f h41 hS
     refine VL.gy rfl rfl (q_field gfa86_1 rfl) (by decide) ?_
     refine VL.gy rfl rfl (q_fe gone9 rfl rfl) (by decide) ?_
     refine VL.gy rfl rfl (q_seq rfl rfl) (by decide) ?_
     refine Zt ?_
     refine Zm ?_
     refine VL.split_dec 46 rfl (fun h46 => ?_) (fun h46 => ?_)
     ·
      replace hS := it_t h46 hS
      refine VL.gy rfl rfl (q_field gfa86_2 rfl) (by decide) ?_
      refine VL.gy rfl rfl (q_fe gone3 rfl rfl) (by decide) ?_
      refine VL.gy rfl rfl (q_eql rfl rfl) (by decide) ?_
      refine Zt ?_
      refine Zm ?_
      refine VL.split_dec 51 rfl (fun h51 => ?_) (fun h51 => ?_)
      ·
       replace hS := it_t h51 hS
       refine VL.gy rfl rfl (q_field gfa86_5 rfl) (by decide) ?_
       refine VL.gy rfl rfl (q_fe gone84 rfl rfl) (by decide) ?_
       refine VL.gy rfl rfl (q_ln (s := q15_3_0.todo) Tryz.underlying84 rfl) (by decide) ?_
       refine VL.gy rfl rfl (q_eql rfl rfl) (by decide) ?_
       refine Zt ?_
       refine Zm ?_
       refine VL.split_dec 57 rfl (fun h57 => ?_) (fun h57 => ?_)
       ·
        replace hS := it_t h57 hS
        refine VL.gy rfl rfl (q_fes gagg86 rfl rfl) (by decide) ?_
        obtain ⟨y59_10, ey59_10, hS⟩ := bd_s hS
        refine VL.gy rfl rfl (q_call (cmd_Text_ct q15_3_0 ey59_10) rfl (fun _ _ => rfl)) (by decide) ?_
        refine VL.gy rfl rfl (q_seq rfl rfl) (by decide) ?_
        refine Zt ?_
        refine Zm ?_
        refine VL.split_dec 62 rfl (fun h62 => ?_) (fun h62 => ?_)
        ·
         replace hS := it_t h62 hS
         refine Zg ?_
         refine VL.gy rfl rfl (q_ln (s := q26_9_0) Tryz.underlying32 rfl) (by decide) ?_
         refine VL.gy rfl rfl (q_eql rfl rfl) (by decide) ?_
         refine Zt ?_
         refine Zm ?_
         refine VL.split_dec 67 rfl (fun h67 => ?_) (fun h67 => ?_)
         ·
          replace hS := it_t h67 hS
          refine Zg ?_
          obtain ⟨z69_11, nz69_11, hz69_11, hS⟩ := at_s hS
          refine VL.gy rfl rfl (q_ixm (s := q26_9_0) Tryz.underlying32 gsz9 rfl rfl nz69_11 (lt_of_get nz69_11 hz69_11)) (by decide) ?_
          refine VL.gy rfl rfl (q_el (s := q26_9_0) gone9 rfl hz69_11 rfl) (by decide) ?_
          refine VL.gy rfl rfl (q_seq rfl rfl) (by decide) ?_
          refine Zt ?_
          refine Zm ?_
          refine VL.split_dec 73 rfl (fun h73 => ?_) (fun h73 => ?_)
          ·
           replace hS := it_t h73 hS
           refine VL.gy rfl rfl (q_fes gagg86 rfl rfl) (by decide) ?_
           refine VL.gy rfl rfl (q_fes gagg86 rfl rfl) (by decide) ?_
           obtain ⟨y76_12, ey76_12, hS⟩ := bd_s hS
           refine VL.gy rfl rfl (q_call (cmd_Same_ct q11_1_0 q11_1_0 ey76_12) rfl (fun _ _ => rfl)) (by decide) ?_
           refine Zt ?_
           refine Zm ?_
           refine VL.split 78 rfl (fun h78 => ?_) (fun h78 => ?_)
           ·
            replace hS := it_t h78 hS
            refine VL.gy rfl rfl (q_fes gagg86 rfl rfl) (by decide) ?_
            refine VL.guard rfl rfl ?_
            obtain ⟨y80_13, ey80_13, hS⟩ := bd_s hS
            refine VL.callF (cmd_Check_ct q11_1_0 ey80_13) rfl (by decide) ?_
            rintro q80_13_0 rfl
            try dsimp only
            refine VL.gy rfl rfl (q_ereq Tryz.underlying27 rfl) (by decide) ?_
            refine Zt ?_
            refine Za ?_
            refine Zl ?_
            refine VC.keep [0] rfl ?_
            cases hS
            exact Ze
           replace hS := it_b h78 hS
           refine Zn ?_
           refine Zn ?_
           refine Zn ?_
           refine Zf ?_
           refine Za ?_
           refine Zl ?_
           refine VC.keep [0] rfl ?_
           cases hS
           exact Ze
          replace hS := it_f h73 hS
          refine Zn ?_
          refine Zn ?_
          refine Zn ?_
          refine Zf ?_
          refine Zm ?_
          refine Zn ?_
          refine Zn ?_
          refine Zn ?_
          refine Zf ?_
          refine Za ?_
          refine Zl ?_
          refine VC.keep [0] rfl ?_
          cases hS
          exact Ze
         replace hS := it_f h67 hS
         refine Zn ?_
         refine Zn ?_
         refine Zn ?_
         refine Zn ?_
         refine Zf ?_
         refine Zm ?_
         refine Zn ?_
         refine Zn ?_
         refine Zn ?_
         refine Zf ?_
         refine Zm ?_
         refine Zn ?_
         refine Zn ?_
         refine Zn ?_
         refine Zf ?_
         refine Za ?_
         refine Zl ?_
         refine VC.keep [0] rfl ?_
         cases hS
         exact Ze
        replace hS := it_f h62 hS
        refine Zn ?_
        refine Zn ?_
        refine Zn ?_
        refine Zf ?_
        refine Zm ?_
        refine Zn ?_
        refine Zn ?_
        refine Zn ?_
        refine Zn ?_
        refine Zf ?_
        refine Zm ?_
        refine Zn ?_
        refine Zn ?_
        refine Zn ?_
        refine Zf ?_
        refine Zm ?_
        refine Zn ?_
        refine Zn ?_
        refine Zn ?_
        refine Zf ?_
        refine Za ?_
        refine Zl ?_
        refine VC.keep [0] rfl ?_
        cases hS
        exact Ze
       replace hS := it_f h57 hS
       refine Zn ?_
       refine Zn ?_
       refine Zn ?_
       refine Zf ?_
       refine Zm ?_
       refine Zn ?_
       refine Zn ?_
       refine Zn ?_
       refine Zf ?_
       refine Zm ?_
       refine Zn ?_
       refine Zn ?_
       refine Zn ?_
       refine Zn ?_
       refine Zf ?_
       refine Zm ?_
       refine Zn ?_
       refine Zn ?_
       refine Zn ?_
       refine Zf ?_
       refine Zm ?_
       refine Zn ?_
       refine Zn ?_
       refine Zn ?_
       refine Zf ?_
       refine Za ?_
       refine Zl ?_
       refine VC.keep [0] rfl ?_
       cases hS
       exact Ze
      replace hS := it_f h51 hS
      refine Zn ?_
      refine Zn ?_
      refine Zn ?_
      refine Zn ?_
      refine Zf ?_
      refine Zm ?_
      refine Zn ?_
      refine Zn ?_
      refine Zn ?_
      refine Zf ?_
      refine Zm ?_
      refine Zn ?_
      refine Zn ?_
      refine Zn ?_
      refine Zf ?_
      refine Zm ?_
      refine Zn ?_
      refine Zn ?_
      refine Zn ?_
      refine Zn ?_
      refine Zf ?_
      refine Zm ?_
      refine Zn ?_
      refine Zn ?_
      refine Zn ?_
      refine Zf ?_
      refine Zm ?_
      refine Zn ?_
      refine Zn ?_
      refine Zn ?_
      refine Zf ?_
      refine Za ?_
      refine Zl ?_
      refine VC.keep [0] rfl ?_
      cases hS
      exact Ze
     replace hS := it_f h46 hS
     refine Zn ?_
     refine Zn ?_
     refine Zn ?_
     refine Zf ?_
     refine Zm ?_
     refine Zn ?_
     refine Zn ?_
     refine Zn ?_
     refine Zn ?_
     refine Zf ?_
     refine Zm ?_
     refine Zn ?_
     refine Zn ?_
     refine Zn ?_
     refine Zf ?_
     refine Zm ?_
     refine Zn ?_
     refine Zn ?_
     refine Zn ?_
     refine Zf ?_
     refine Zm ?_
     refine Zn ?_
     refine Zn ?_
     refine Zn ?_
     refine Zn ?_
     refine Zf ?_
     refine Zm ?_
     refine Zn ?_
     refine Zn ?_
     refine Zn ?_
     refine Zf ?_
     refine Zm ?_
     refine Zn ?_
     refine Zn ?_
     refine Zn ?_
     refine Zf ?_
     refine Za ?_
     refine Zl ?_
     refine VC.keep [0] rfl ?_
     cases hS
     exact Ze
    replace hS := it_t h41 hS
    refine Zn ?_
    refine Zn ?_
    refine Zn ?_
    refine Zf ?_
    refine Zm ?_
    refine Zn ?_
    refine Zn ?_
    refine Zn ?_
    refine Zf ?_
    refine Zm ?_
    refine Zn ?_
    refine Zn ?_
    refine Zn ?_
    refine Zn ?_
    refine Zf ?_
    refine Zm ?_
    refine Zn ?_
    refine Zn ?_
    refine Zn ?_
    refine Zf ?_
    refine Zm ?_
    refine Zn ?_
    refine Zn ?_
    refine Zn ?_
    refine Zf ?_
    refine Zm ?_
    refine Zn ?_
    refine Zn ?_
    refine Zn ?_
    refine Zn ?_
    refine Zf ?_
    refine Zm ?_
    refine Zn ?_
    refine Zn ?_
    refine Zn ?_
    refine Zf ?_
    refine Zm ?_
    refine Zn ?_
    refine Zn ?_
    refine Zn ?_
    refine Zf ?_
    refine Za ?_
    refine Zl ?_
    refine VC.keep [0] rfl ?_
    cases hS
    exact Ze
   replace hS := it_t h37 hS
   refine Zn ?_
   refine Zn ?_
   refine Zf ?_
   refine Zm ?_
   refine Zn ?_
   refine Zn ?_
   refine Zn ?_
   refine Zf ?_
   refine Zm ?_
   refine Zn ?_
   refine Zn ?_
   refine Zn ?_
   refine Zf ?_
   refine Zm ?_
   refine Zn ?_
   refine Zn ?_
   refine Zn ?_
   refine Zn ?_
   refine Zf ?_
   refine Zm ?_
   refine Zn ?_
   refine Zn ?_
   refine Zn ?_
   refine Zf ?_
   refine Zm ?_
   refine Zn ?_
   refine Zn ?_
   refine Zn ?_
   refine Zf ?_
   refine Zm ?_
   refine Zn ?_
   refine Zn ?_
   refine Zn ?_
   refine Zn ?_
   refine Zf ?_
   refine Zm ?_
   refine Zn ?_
   refine Zn ?_
   refine Zn ?_
   refine Zf ?_
   refine Zm ?_
   refine Zn ?_
   refine Zn ?_
   refine Zn ?_
   refine Zf ?_
   refine Za ?_
   refine Zl ?_
   refine VC.keep [0] rfl ?_
   cases hS
   exact Ze
  replace hS := it_f h33 hS
  refine Zn ?_
  refine Zn ?_
  refine Zf ?_
  refine Zm ?_
  refine Zn ?_
  refine Zn ?_
  refine Zf ?_
  refine Zm ?_
  refine Zn ?_
  refine Zn ?_
  refine Zn ?_
  refine Zf ?_
  refine Zm ?_
  refine Zn ?_
  refine Zn ?_
  refine Zn ?_
  refine Zf ?_
  refine Zm ?_
  refine Zn ?_
  refine Zn ?_
  refine Zn ?_
  refine Zn ?_
  refine Zf ?_
  refine Zm ?_
  refine Zn ?_
  refine Zn ?_
  refine Zn ?_
  refine Zf ?_
  refine Zm ?_
  refine Zn ?_
  refine Zn ?_
  refine Zn ?_
  refine Zf ?_
  refine Zm ?_
  refine Zn ?_
  refine Zn ?_
  refine Zn ?_
  refine Zn ?_
  refine Zf ?_
  refine Zm ?_
  refine Zn ?_
  refine Zn ?_
  refine Zn ?_
  refine Zf ?_
  refine Zm ?_
  refine Zn ?_
  refine Zn ?_
  refine Zn ?_
  refine Zf ?_
  refine Za ?_
  refine Zl ?_
  refine VC.keep [0] rfl ?_
  cases hS
  exact Ze
 replace hS := it_f h29 hS
 refine Zn ?_
 refine Zn ?_
 refine Zf ?_
 refine Zm ?_
 refine Zn ?_
 refine Zn ?_
 refine Zf ?_
 refine Zm ?_
 refine Zn ?_
 refine Zn ?_
 refine Zf ?_
 refine Zm ?_
 refine Zn ?_
 refine Zn ?_
 refine Zn ?_
 refine Zf ?_
 refine Zm ?_
 refine Zn ?_
 refine Zn ?_
 refine Zn ?_
 refine Zf ?_
 refine Zm ?_
 refine Zn ?_
 refine Zn ?_
 refine Zn ?_
 refine Zn ?_
 refine Zf ?_
 refine Zm ?_
 refine Zn ?_
 refine Zn ?_
 refine Zn ?_
 refine Zf ?_
 refine Zm ?_
 refine Zn ?_
 refine Zn ?_
 refine Zn ?_
 refine Zf ?_
 refine Zm ?_
 refine Zn ?_
 refine Zn ?_
 refine Zn ?_
 refine Zn ?_
 refine Zf ?_
 refine Zm ?_
 refine Zn ?_
 refine Zn ?_
 refine Zn ?_
 refine Zf ?_
 refine Zm ?_
 refine Zn ?_
 refine Zn ?_
 refine Zn ?_
 refine Zf ?_
 refine Za ?_
 refine Zl ?_
 refine VC.keep [0] rfl ?_
 cases hS
 exact Ze
theorem rectolaw22_Few_ct (c_0 : CmdCmd) {r : Bool} (hS : Sh.rectolaw22_Few c_0.pl = some r) :
 Ct Tryz.prog 39 [.agg #[str c_0.verb, str c_0.name, i64 c_0.n, str c_0.text, .bool c_0.force, c_0.todo.val]] c_0.todo.ok (Ow.emp) (X := Unit) (fun _ => .bool r) (fun _ => True) (fun _ => Mo.tt) (fun _ => Ow.emp) := by
 refine Ct.of Tryz.func39 rfl (by kernel_rfl) Tryz.ntmps39 (by simp) fun c => ?_
 unfold Sh.rectolaw22_Few at hS
 refine Zq (Zr ?_)
 refine VL.box (cs := [str c_0.verb, str c_0.name, i64 c_0.n, str c_0.text, .bool c_0.force, c_0.todo.val]) rfl rfl (by decide) fun b1_1 => ?_
 refine Za ?_
 refine Zl ?_
 refine Zq ?_
 refine VC.cutJ (S := Bool) (fun (x25_2 : Bool) => x25_2) (fun (x25_2 : Bool) => [(1, ptr b1_1 0), (25, .bool x25_2)]) (fun (x25_2 : Bool) => Mo.tt) (fun (x25_2 : Bool) => Ow.star (Blk b1_1 [str c_0.verb, str c_0.name, i64 c_0.n, str c_0.text, .bool c_0.force, c_0.todo.val] 86) (Ow.emp)) hS ?_ ?_
 ·
  clear hS
  intro k3 hS
  refine Zr ?_
  refine VL.q (q_field gfa86_0 rfl) (by decide) ?_
  refine VL.q (q_fe gone9 rfl rfl) (by decide) ?_
  refine VL.q (q_slen Tryz.underlying9 rfl) (by decide) ?_
  refine VL.q (q_gtr rfl rfl) (by decide) ?_
  refine Zm ?_
  refine VL.split_dec 8 rfl (fun h8 => ?_) (fun h8 => ?_)
  ·
   replace hS := it_t h8 hS
   refine Zn ?_
   refine Zn ?_
   refine Zn ?_
   refine Zn ?_
   refine Zt ?_
   refine Zm ?_
   refine Zn ?_
   refine Zn ?_
   refine Zn ?_
   refine Zn ?_
   refine Zt ?_
   refine Zm ?_
   refine Zn ?_
   refine Zn ?_
   refine Zn ?_
   refine Zn ?_
   refine Zt ?_
   refine VL.mt true [1, 25] (fun _ _ h => h) hS rfl
  replace hS := it_f h8 hS
  refine VL.gy rfl rfl (q_field gfa86_1 rfl) (by decide) ?_
  refine VL.gy rfl rfl (q_fe gone9 rfl rfl) (by decide) ?_
  refine VL.gy rfl rfl (q_slen Tryz.underlying9 rfl) (by decide) ?_
  refine VL.gy rfl rfl (q_gtr rfl rfl) (by decide) ?_
  refine Zf ?_
  refine Zm ?_
  refine VL.split_dec 14 rfl (fun h14 => ?_) (fun h14 => ?_)
  ·
   replace hS := it_t h14 hS
   refine Zn ?_
   refine Zn ?_
   refine Zn ?_
   refine Zn ?_
   refine Zt ?_
   refine Zm ?_
   refine Zn ?_
   refine Zn ?_
   refine Zn ?_
   refine Zn ?_
   refine Zt ?_
   refine VL.mt true [1, 25] (fun _ _ h => h) hS rfl
  replace hS := it_f h14 hS
  refine VL.gy rfl rfl (q_field gfa86_3 rfl) (by decide) ?_
  refine VL.gy rfl rfl (q_fe gone9 rfl rfl) (by decide) ?_
  refine VL.gy rfl rfl (q_slen Tryz.underlying9 rfl) (by decide) ?_
  refine VL.gy rfl rfl (q_gtr rfl rfl) (by decide) ?_
  refine Zf ?_
  refine Zm ?_
  refine VL.split_dec 20 rfl (fun h20 => ?_) (fun h20 => ?_)
  ·
   replace hS := it_t h20 hS
   refine Zn ?_
   refine Zn ?_
   refine Zn ?_
   refine Zn ?_
   refine Zt ?_
   refine VL.mt true [1, 25] (fun _ _ h => h) hS rfl
  replace hS := it_f h20 hS
  refine VL.gy rfl rfl (q_field gfa86_5 rfl) (by decide) ?_
  refine VL.gy rfl rfl (q_fe gone84 rfl rfl) (by decide) ?_
  refine VL.gy rfl rfl (q_ln (s := c_0.todo) Tryz.underlying84 rfl) (by decide) ?_
  refine VL.gy rfl rfl (q_gtr rfl rfl) (by decide) ?_
  refine Zf ?_
  refine VL.mt (decide (40 < (c_0.todo.l.length : Int))) [1, 25] (fun _ _ h => h) hS rfl
 clear hS
 rintro x25_2 hS
 show VC _ _ _ _ _ [(1, ptr b1_1 0), (25, .bool x25_2)] (Mo.and Mo.tt _) (Ow.star (Blk b1_1 [str c_0.verb, str c_0.name, i64 c_0.n, str c_0.text, .bool c_0.force, c_0.todo.val] 86) (Ow.emp))
 refine VC.cond rfl (fun h25 => ?_) (fun h25 => ?_)
 ·
  replace hS := it_t h25 hS
  refine Zq (Zr ?_)
  refine Za ?_
  refine Zl ?_
  cases hS
  exact Ze
 replace hS := it_b h25 hS
 refine Zk ?_
 refine Zq (Zq (Zr ?_))
 refine Za ?_
 refine Zl ?_
 refine Zb ?_
 refine VC.iter (S := Int) (fun (i3_4 : Int) => i3_4) (fun (i3_4 : Int) => [(1, ptr b1_1 0), (3, i64 i3_4)]) (fun (i3_4 : Int) => Mo.tt) (fun (i3_4 : Int) => Ow.star (Blk b1_1 [str c_0.verb, str c_0.name, i64 c_0.n, str c_0.text, .bool c_0.force, c_0.todo.val] 86) (Ow.emp)) 0 [1, 3] hS rfl ?_
 clear hS
 rintro i3_4 m1 y1 hS hK1
 show VC _ _ _ _ _ [(1, ptr b1_1 0), (3, i64 i3_4)] (Mo.and Mo.tt _) (Ow.star (Blk b1_1 [str c_0.verb, str c_0.name, i64 c_0.n, str c_0.text, .bool c_0.force, c_0.todo.val] 86) (Ow.emp))
 refine Zq (Zq (Zr ?_))
 refine Zm ?_
 refine VL.q (q_field gfa86_5 rfl) (by decide) ?_
 refine VL.q (q_fe gone84 rfl rfl) (by decide) ?_
 refine VL.q (q_ln (s := c_0.todo) Tryz.underlying84 rfl) (by decide) ?_
 refine VL.q (q_lss rfl rfl) (by decide) ?_
 refine Zl ?_
 refine VC.cond_dec rfl (fun h30 => ?_) (fun h30 => ?_)
 ·
  replace hS := it_t h30 hS
  refine Zk ?_
  refine Zq (Zb ?_)
  refine VC.cutJ (S := Bool) (fun (x50_5 : Bool) => x50_5) (fun (x50_5 : Bool) => [(1, ptr b1_1 0), (3, i64 i3_4), (50, .bool x50_5)]) (fun (x50_5 : Bool) => Mo.tt) (fun (x50_5 : Bool) => Ow.star (Blk b1_1 [str c_0.verb, str c_0.name, i64 c_0.n, str c_0.text, .bool c_0.force, c_0.todo.val] 86) (Ow.emp)) hS ?_ ?_
  ·
   clear hS
   intro k6 hS
   refine Zr ?_
   refine VL.q (q_field gfa86_5 rfl) (by decide) ?_
   refine VL.q (q_fe gone84 rfl rfl) (by decide) ?_
   refine Zm ?_
   obtain ⟨z36_7, nz36_7, hz36_7, hS⟩ := at_s hS
   refine VL.q (q_ixm (s := c_0.todo) Tryz.underlying84 gsz173 rfl rfl nz36_7 (lt_of_get nz36_7 hz36_7)) (by decide) ?_
   refine VL.q (q_field gfa173_2 rfl) (by decide) ?_
   refine VL.q (q_elf (s := c_0.todo) gone9 rfl hz36_7 rfl) (by decide) ?_
   refine VL.q (q_slen Tryz.underlying9 rfl) (by decide) ?_
   refine VL.q (q_gtr rfl rfl) (by decide) ?_
   refine Zm ?_
   refine VL.split_dec 41 rfl (fun h41 => ?_) (fun h41 => ?_)
   ·
    replace hS := it_t h41 hS
    refine Zn ?_
    refine Zn ?_
    refine Zn ?_
    refine Zn ?_
    refine Zn ?_
    refine Zn ?_
    refine Zn ?_
    refine Zn ?_
    refine Zt ?_
    refine VL.mt true [1, 3, 50] (fun _ _ h => h) hS rfl
   replace hS := it_f h41 hS
   refine VL.gy rfl rfl (q_field gfa86_5 rfl) (by decide) ?_
   refine VL.gy rfl rfl (q_fe gone84 rfl rfl) (by decide) ?_
   refine Zg ?_
   obtain ⟨z45_8, nz45_8, hz45_8, hS⟩ := at_s hS
   refine VL.gy rfl rfl (q_ixm (s := c_0.todo) Tryz.underlying84 gsz173 rfl rfl nz45_8 (lt_of_get nz45_8 hz45_8)) (by decide) ?_
   refine VL.gy rfl rfl (q_field gfa173_0 rfl) (by decide) ?_
   refine VL.gy rfl rfl (q_elf (s := c_0.todo) gone9 rfl hz45_8 rfl) (by decide) ?_
   refine VL.gy rfl rfl (q_slen Tryz.underlying9 rfl) (by decide) ?_
   refine VL.gy rfl rfl (q_gtr rfl rfl) (by decide) ?_
   refine Zf ?_
   refine VL.mt (decide (50 < (z45_8.verb.length : Int))) [1, 3, 50] (fun _ _ h => h) hS rfl
  clear hS
  rintro x50_5 hS
  show VC _ _ _ _ _ [(1, ptr b1_1 0), (3, i64 i3_4), (50, .bool x50_5)] (Mo.and Mo.tt _) (Ow.star (Blk b1_1 [str c_0.verb, str c_0.name, i64 c_0.n, str c_0.text, .bool c_0.force, c_0.todo.val] 86) (Ow.emp))
  refine VC.cond rfl (fun h50 => ?_) (fun h50 => ?_)
  ·
   replace hS := it_t h50 hS
   refine Zq (Zr ?_)
   refine Za ?_
   refine Zl ?_
   replace hS := up2 hS hK1
   cases hS
   exact Ze
  replace hS := it_b h50 hS
  refine Zk ?_
  refine Zr ?_
  refine Zm ?_
  obtain ⟨b32, hS⟩ := gd_s hS
  refine VL.q (q_add rfl rfl b32) (by decide) ?_
  refine Za ?_
  refine VL.rnd (i3_4 + 1) [1, 3] (fun _ _ h => h) (go2 hS hK1) rfl
 replace hS := it_f h30 hS
 replace hS := up2 hS hK1
 refine Zx ?_
 refine Zq (Zr ?_)
 refine Za ?_
 refine Zl ?_
 cases hS
 exact Ze
theorem rectolaw21_Of_ct (l_0 : Sv TodoStep) {r : List Rectoref17Step} (hS : Sh.rectolaw21_Of l_0.l = some r) :
 Ct Tryz.prog 110 [l_0.val] l_0.ok (Ow.emp) (X := Sv Rectoref17Step) (fun x => x.val) (fun x => r = x.l) (fun x => Mo.tt) (fun x => Sv.own x 204) := by
 refine Ct.of Tryz.func110 rfl (by kernel_rfl) Tryz.ntmps110 (by simp) fun c => ?_
 unfold Sh.rectolaw21_Of at hS
 refine Zq (Zr ?_)
 refine Za ?_
 refine Zl ?_
 refine Zq (Zr ?_)
 refine Za ?_
 refine Zl ?_
 refine Zq (Zq (Zr ?_))
 refine Za ?_
 refine Zl ?_
 refine Zb ?_
 refine VC.nilO (⟨none, 0, []⟩ : Sv Rectoref17Step) 204 ⟨rfl, rfl⟩ ?_
 refine VC.iter (S := Sv Rectoref17Step × Int) (fun sg => (sg.1.l, sg.2)) (fun sg => [(0, l_0.val), (3, sg.1.val), (4, i64 sg.2)]) (fun sg => Mo.tt) (fun sg => Ow.star (Sv.own sg.1 204) (Ow.emp)) (⟨none, 0, []⟩, 0) [0, 3, 4] hS rfl ?_
 clear hS
 rintro ⟨out3_1, i4_2⟩ m1 y1 hS hK1
 show VC _ _ _ _ _ [(0, l_0.val), (3, out3_1.val), (4, i64 i4_2)] (Mo.and Mo.tt _) (Ow.star (Sv.own out3_1 204) (Ow.emp))
 refine Zq (Zq (Zr ?_))
 refine Zm ?_
 refine Zm ?_
 refine VL.q (q_ln (s := l_0) Tryz.underlying84 rfl) (by decide) ?_
 refine VL.q (q_lss rfl rfl) (by decide) ?_
 refine Zl ?_
 refine VC.cond_dec rfl (fun h8 => ?_) (fun h8 => ?_)
 ·
  replace hS := it_t h8 hS
  refine Zk ?_
  refine Zq (Zb ?_)
  refine VC.draw [(0, true), (1, true), (2, true), (3, true), (4, true), (5, true), (6, true), (7, true), (8, true), (9, true), (10, true), (11, true), (12, true), (13, true), (14, true), (15, true), (16, true), (17, false), (18, false), (19, true)] mixed (by kernel_rfl) (by kernel_rfl) (by kernel_rfl) ?_
  refine VD.q rfl (q_move rfl) (by decide) ?_
  refine VD.q rfl (q_move rfl) (by decide) ?_
  refine VD.q rfl (q_move rfl) (by decide) ?_
  obtain ⟨z14_3, nz14_3, hz14_3, hS⟩ := at_s hS
  refine VD.q rfl (q_ixm (s := l_0) Tryz.underlying84 gsz173 rfl rfl nz14_3 (lt_of_get nz14_3 hz14_3)) (by decide) ?_
  refine VD.q rfl (q_field gfa173_0 rfl) (by decide) ?_
  refine VD.q rfl (q_elf (s := l_0) gone9 rfl hz14_3 rfl) (by decide) ?_
  refine VD.q rfl (q_move rfl) (by decide) ?_
  refine VD.q rfl (q_move rfl) (by decide) ?_
  obtain ⟨z19_4, nz19_4, hz19_4, hS⟩ := at_s hS
  refine VD.q rfl (q_ixm (s := l_0) Tryz.underlying84 gsz173 rfl rfl nz19_4 (lt_of_get nz19_4 hz19_4)) (by decide) ?_
  refine VD.q rfl (q_field gfa173_1 rfl) (by decide) ?_
  refine VD.q rfl (q_elf (s := l_0) gone3 rfl hz19_4 rfl) (by decide) ?_
  refine VD.q rfl (q_move rfl) (by decide) ?_
  refine VD.q rfl (q_move rfl) (by decide) ?_
  obtain ⟨z24_5, nz24_5, hz24_5, hS⟩ := at_s hS
  refine VD.q rfl (q_ixm (s := l_0) Tryz.underlying84 gsz173 rfl rfl nz24_5 (lt_of_get nz24_5 hz24_5)) (by decide) ?_
  refine VD.q rfl (q_field gfa173_2 rfl) (by decide) ?_
  refine VD.q rfl (q_elf (s := l_0) gone9 rfl hz24_5 rfl) (by decide) ?_
  refine VD.q rfl (q_build (vs := [(0, str z14_3.verb), (1, i64 z19_4.commit), (2, str z24_5.text)]) (cs := #[str z14_3.verb, i64 z19_4.commit, str z24_5.text]) rfl (by kernel_rfl)) (by decide) ?_
  refine VD.one rfl ?_
  refine VL.lit (α := Rectoref17Step) (xs := [.tmp 27]) (vs := [.agg #[str z14_3.verb, i64 z19_4.commit, str z24_5.text]]) [⟨z14_3.verb, z19_4.commit, z24_5.text⟩] Tryz.underlying89 glit204 (by decide) rfl rfl rfl rfl (by decide) (fun _ _ _ _ => trivial) (by decide) (fun s28_6 hs28_6 => ?_) (by decide)
  replace hS := lt_to hs28_6 hS
  refine VL.back (D' := []) (by kernel_rfl) (Pend.nil) ?_
  refine VD.one rfl ?_
  obtain ⟨b29, hS⟩ := gd_s hS
  refine VL.app (s := out3_1) (r := s28_6) Tryz.underlying89 gapp204 (by decide) rfl Fo.out (ap1 b29) (ap2 b29 (by decide)) (by decide) (fun s29_8 hs29_8 => ?_)
  replace hS := lt_to hs29_8 hS
  refine VL.back (D' := []) (by kernel_rfl) (Pend.nil) ?_
  refine VD.q rfl (q_assign rfl) (by decide) ?_
  refine VD.to (fun _ _ h => h) ?_
  refine VC.keep [0, 3, 4] rfl ?_
  refine Zr ?_
  refine Zm ?_
  obtain ⟨b10, hS⟩ := gd_s hS
  refine VL.q (q_add rfl rfl b10) (by decide) ?_
  refine Za ?_
  refine VL.rnd (s29_8, (i4_2 + 1)) [0, 3, 4] (fun _ _ h => h) (go2 hS hK1) rfl
 replace hS := it_f h8 hS
 replace hS := up2 hS hK1
 refine Zx ?_
 refine Zq (Zr ?_)
 refine Zm ?_
 refine Za ?_
 refine Zl ?_
 cases hS
 exact VC.ret (fin1 (.inr rfl) rfl rfl out3_1 rfl rfl (by (try dsimp only); exact InM.out) (by (try dsimp only); exact EntO.out))
theorem rectolaw22_Of_ct (c_0 : CmdCmd) {r : Rectoref17CmdP} (hS : Sh.rectolaw22_Of c_0.pl = some r) :
 Ct Tryz.prog 41 [.agg #[str c_0.verb, str c_0.name, i64 c_0.n, str c_0.text, .bool c_0.force, c_0.todo.val]] c_0.todo.ok (Ow.emp) (X := Rectoref17Cmd) (fun x => .agg (Dat.enc x).toArray) (fun x => r = x.pl) (fun x => x.m) (fun x => Ow.emp) := by
 refine Ct.of Tryz.func41 rfl (by kernel_rfl) Tryz.ntmps41 (by simp) fun c => ?_
 unfold Sh.rectolaw22_Of at hS
 refine Zq (Zr ?_)
 refine VL.box (cs := [str c_0.verb, str c_0.name, i64 c_0.n, str c_0.text, .bool c_0.force, c_0.todo.val]) rfl rfl (by decide) fun b1_1 => ?_
 refine VL.alloc (cs := [str [], str [], i64 0, str [], .bool false, .slice none 0 0]) (by kernel_rfl) (by decide) fun b2_2 => ?_
 refine Zl ?_
 refine Zq ?_
 refine VC.draw [(0, true), (1, true), (2, true), (3, true), (4, true), (5, true), (6, true), (7, true), (8, true), (9, true), (10, true), (11, true), (12, false), (13, true), (14, false)] mixed (by kernel_rfl) (by kernel_rfl) (by kernel_rfl) ?_
 refine VD.q rfl (q_field gfa86_0 rfl) (by decide) ?_
 refine VD.q rfl (q_fe gone9 rfl rfl) (by decide) ?_
 refine VD.q rfl (q_field gfa86_1 rfl) (by decide) ?_
 refine VD.q rfl (q_fe gone9 rfl rfl) (by decide) ?_
 refine VD.q rfl (q_field gfa86_2 rfl) (by decide) ?_
 refine VD.q rfl (q_fe gone3 rfl rfl) (by decide) ?_
 refine VD.q rfl (q_field gfa86_3 rfl) (by decide) ?_
 refine VD.q rfl (q_fe gone9 rfl rfl) (by decide) ?_
 refine VD.q rfl (q_field gfa86_4 rfl) (by decide) ?_
 refine VD.q rfl (q_fe gone4 rfl rfl) (by decide) ?_
 refine VD.q rfl (q_field gfa86_5 rfl) (by decide) ?_
 refine VD.q rfl (q_fe gone84 rfl rfl) (by decide) ?_
 refine VD.one rfl ?_
 obtain ⟨y15_3, ey15_3, hS⟩ := bd_s hS
 refine VL.callO (rectolaw21_Of_ct c_0.todo ey15_3) rfl (by decide) ?_
 rintro q15_3_0 rfl
 try dsimp only
 refine VL.back (D' := [(9, .bool c_0.force), (8, ptr b1_1 4), (7, str c_0.text), (6, ptr b1_1 3), (5, i64 c_0.n), (4, ptr b1_1 2), (3, str c_0.name), (2, ptr b1_1 1), (1, str c_0.verb), (0, ptr b1_1 0)]) (by kernel_rfl) (Pend.cons rfl (q_fe gone4 rfl rfl) (Pend.cons rfl (q_field gfa86_4 rfl) (Pend.cons rfl (q_fe gone9 rfl rfl) (Pend.cons rfl (q_field gfa86_3 rfl) (Pend.cons rfl (q_fe gone3 rfl rfl) (Pend.cons rfl (q_field gfa86_2 rfl) (Pend.cons rfl (q_fe gone9 rfl rfl) (Pend.cons rfl (q_field gfa86_1 rfl) (Pend.cons rfl (q_fe gone9 rfl rfl) (Pend.cons rfl (q_field gfa86_0 rfl) (Pend.nil))))))))))) ?_
 refine VD.q rfl (q_build (vs := [(0, str c_0.verb), (1, str c_0.name), (2, i64 c_0.n), (3, str c_0.text), (4, .bool c_0.force), (5, q15_3_0.val)]) (cs := #[str c_0.verb, str c_0.name, i64 c_0.n, str c_0.text, .bool c_0.force, q15_3_0.val]) rfl (by kernel_rfl)) (by decide) ?_
 refine VD.one rfl ?_
 refine VL.store (vc := [str c_0.verb, str c_0.name, i64 c_0.n, str c_0.text, .bool c_0.force, q15_3_0.val]) (cs' := [str c_0.verb, str c_0.name, i64 c_0.n, str c_0.text, .bool c_0.force, q15_3_0.val]) rfl rfl rfl gsz91 rfl rfl (Nat.le_of_ble_eq_true rfl) rfl ?_
 refine VL.back (D' := []) (by kernel_rfl) (Pend.nil) ?_
 refine VD.to (fun _ _ h => h) ?_
 refine VC.keep [2] rfl ?_
 refine VC.shut q15_3_0 204 (fun _ _ _ _ => trivial) ?_
 cases hS
 exact VC.ret (finG (vs := [.agg #[str c_0.verb, str c_0.name, i64 c_0.n, str c_0.text, .bool c_0.force, q15_3_0.val]]) (.inr rfl) rfl (RVs.cell gagg91 rfl rfl Rd.blk (RVs.nil)) ⟨c_0.verb, c_0.name, c_0.n, c_0.text, c_0.force, q15_3_0⟩ rfl rfl (by (try dsimp only); exact InM.out) (fun _ _ => trivial))
theorem rectoref17_Verbs_ct  {r : List Str} (hS : Sh.rectoref17_Verbs = some r) :
 Ct Tryz.prog 46 [] Mo.tt (Ow.emp) (X := Sv Str) (fun x => x.val) (fun x => r = x.l) (fun x => x.ok) (fun x => Ow.emp) := by
 refine Ct.of Tryz.func46 rfl (by kernel_rfl) Tryz.ntmps46 (by simp) fun c => ?_
 unfold Sh.rectoref17_Verbs at hS
 refine Zq (Zr ?_)
 refine Za ?_
 refine Zl ?_
 refine Zq (Zr ?_)
 refine VL.lit (α := Str) (xs := [.const (str [97, 100, 100]), .const (str [114, 109]), .const (str [99, 111, 109, 109, 105, 116]), .const (str [98, 114, 97, 110, 99, 104]), .const (str [100, 101, 108, 101, 116, 101]), .const (str [115, 119, 105, 116, 99, 104]), .const (str [114, 101, 115, 101, 116]), .const (str [109, 101, 114, 103, 101]), .const (str [112, 105, 99, 107]), .const (str [114, 101, 118, 101, 114, 116]), .const (str [115, 116, 97, 115, 104]), .const (str [112, 111, 112]), .const (str [97, 112, 112, 108, 121]), .const (str [115, 104, 101, 108, 118, 101]), .const (str [114, 101, 98, 97, 115, 101]), .const (str [99, 111, 110, 116, 105, 110, 117, 101]), .const (str [115, 107, 105, 112]), .const (str [97, 98, 111, 114, 116]), .const (str [117, 110, 100, 111]), .const (str [114, 101, 100, 111])]) (vs := [str [97, 100, 100], str [114, 109], str [99, 111, 109, 109, 105, 116], str [98, 114, 97, 110, 99, 104], str [100, 101, 108, 101, 116, 101], str [115, 119, 105, 116, 99, 104], str [114, 101, 115, 101, 116], str [109, 101, 114, 103, 101], str [112, 105, 99, 107], str [114, 101, 118, 101, 114, 116], str [115, 116, 97, 115, 104], str [112, 111, 112], str [97, 112, 112, 108, 121], str [115, 104, 101, 108, 118, 101], str [114, 101, 98, 97, 115, 101], str [99, 111, 110, 116, 105, 110, 117, 101], str [115, 107, 105, 112], str [97, 98, 111, 114, 116], str [117, 110, 100, 111], str [114, 101, 100, 111]]) [[97, 100, 100], [114, 109], [99, 111, 109, 109, 105, 116], [98, 114, 97, 110, 99, 104], [100, 101, 108, 101, 116, 101], [115, 119, 105, 116, 99, 104], [114, 101, 115, 101, 116], [109, 101, 114, 103, 101], [112, 105, 99, 107], [114, 101, 118, 101, 114, 116], [115, 116, 97, 115, 104], [112, 111, 112], [97, 112, 112, 108, 121], [115, 104, 101, 108, 118, 101], [114, 101, 98, 97, 115, 101], [99, 111, 110, 116, 105, 110, 117, 101], [115, 107, 105, 112], [97, 98, 111, 114, 116], [117, 110, 100, 111], [114, 101, 100, 111]] Tryz.underlying32 glit9 (by decide) rfl rfl rfl rfl (by decide) (fun _ _ _ _ => trivial) (by decide) (fun s1_1 hs1_1 => ?_) (by decide)
 replace hS := lt_to hs1_1 hS
 refine Za ?_
 refine Zl ?_
 cases hS
 exact VC.ret (fin1 (.inr rfl) rfl rfl s1_1 rfl rfl (by (try dsimp only); exact InM.out) (fun _ _ => trivial))
theorem rectoref17_Place_ct (s_0 : Str) {r : Int} (hS : Sh.rectoref17_Place s_0 = some r) :
 Ct Tryz.prog 105 [str s_0] Mo.tt (Ow.emp) (X := Unit) (fun _ => i64 r) (fun _ => True) (fun _ => Mo.tt) (fun _ => Ow.emp) := by
 refine Ct.of Tryz.func105 rfl (by kernel_rfl) Tryz.ntmps105 (by simp) fun c => ?_
 unfold Sh.rectoref17_Place at hS
 refine Zq (Zr ?_)
 refine Za ?_
 refine Zl ?_
 refine Zq (Zr ?_)
 obtain ⟨y5_1, ey5_1, hS⟩ := bd_s hS
 refine VL.callF (rectoref17_Verbs_ct ey5_1) rfl (by decide) ?_
 rintro q5_1_0 rfl
 try dsimp only
 refine Za ?_
 refine Zl ?_
 refine Zq (Zq (Zr ?_))
 refine Za ?_
 refine Zl ?_
 refine Zb ?_
 refine VC.iter (S := Int) (fun (i4_2 : Int) => i4_2) (fun (i4_2 : Int) => [(0, str s_0), (3, q5_1_0.val), (4, i64 i4_2)]) (fun (i4_2 : Int) => Mo.tt) (fun (i4_2 : Int) => Ow.emp) 0 [0, 3, 4] hS rfl ?_
 clear hS
 rintro i4_2 m1 y1 hS hK1
 show VC _ _ _ _ _ [(0, str s_0), (3, q5_1_0.val), (4, i64 i4_2)] (Mo.and Mo.tt _) (Ow.emp)
 refine Zq (Zq (Zr ?_))
 refine Zm ?_
 refine Zm ?_
 refine VL.q (q_ln (s := q5_1_0) Tryz.underlying32 rfl) (by decide) ?_
 refine VL.q (q_lss rfl rfl) (by decide) ?_
 refine Zl ?_
 refine VC.cond_dec rfl (fun h9 => ?_) (fun h9 => ?_)
 ·
  replace hS := it_t h9 hS
  refine Zk ?_
  refine Zq (Zb (Zq (Zr ?_)))
  refine Zm ?_
  refine Zm ?_
  obtain ⟨z14_3, nz14_3, hz14_3, hS⟩ := at_s hS
  refine VL.q (q_ixm (s := q5_1_0) Tryz.underlying32 gsz9 rfl rfl nz14_3 (lt_of_get nz14_3 hz14_3)) (by decide) ?_
  refine VL.q (q_el (s := q5_1_0) gone9 rfl hz14_3 rfl) (by decide) ?_
  refine Zm ?_
  refine Zs ?_
  refine Zl ?_
  refine VC.keep [0, 3, 4, 17] rfl ?_
  refine VC.cond_dec rfl (fun h17 => ?_) (fun h17 => ?_)
  ·
   replace hS := it_t h17 hS
   refine Zq (Zr ?_)
   refine Zm ?_
   refine Za ?_
   refine Zl ?_
   replace hS := up2 hS hK1
   cases hS
   exact Ze
  replace hS := it_f h17 hS
  refine Zk ?_
  refine Zr ?_
  refine Zm ?_
  obtain ⟨b11, hS⟩ := gd_s hS
  refine VL.q (q_add rfl rfl b11) (by decide) ?_
  refine Za ?_
  refine VL.rnd (i4_2 + 1) [0, 3, 4] (fun _ _ h => h) (go2 hS hK1) rfl
 replace hS := it_f h9 hS
 replace hS := up2 hS hK1
 refine Zx ?_
 refine Zq (Zr ?_)
 refine Za ?_
 refine Zl ?_
 cases hS
 exact Ze
theorem rectoref3_At_ct (word_0 : Str) (at_1 : Int) (e_2 : Int) {r : Rectoref3WrongP} (hS : Sh.rectoref3_At word_0 at_1 e_2 = some r) :
 Ct Tryz.prog 102 [str word_0, i64 at_1, i64 e_2] Mo.tt (Ow.emp) (X := Rectoref3Wrong) (fun x => .agg (Dat.enc x).toArray) (fun x => r = x.pl) (fun x => x.m) (fun x => Ow.emp) := by
 refine Ct.of Tryz.func102 rfl (by kernel_rfl) Tryz.ntmps102 (by simp) fun c => ?_
 unfold Sh.rectoref3_At at hS
 refine Zq (Zr ?_)
 refine VL.alloc (cs := [.slice none 0 0, i64 0]) (by kernel_rfl) (by decide) fun b6_1 => ?_
 refine Zl ?_
 refine Zq (Zr ?_)
 refine Zm ?_
 refine Zm ?_
 refine VL.q (q_build (vs := [(0, str word_0), (1, i64 at_1)]) (cs := #[str word_0, i64 at_1]) rfl (by kernel_rfl)) (by decide) ?_
 refine VL.lit (α := Rectoref3Part) (xs := [.tmp 9]) (vs := [.agg #[str word_0, i64 at_1]]) [⟨word_0, at_1⟩] Tryz.underlying75 glit183 (by decide) rfl rfl rfl rfl (by decide) (fun _ _ _ _ => trivial) (by decide) (fun s10_2 hs10_2 => ?_) (by decide)
 replace hS := lt_to hs10_2 hS
 refine Zm ?_
 refine VL.q (q_build (vs := [(0, s10_2.val), (1, i64 e_2)]) (cs := #[s10_2.val, i64 e_2]) rfl (by kernel_rfl)) (by decide) ?_
 refine VL.store (vc := [s10_2.val, i64 e_2]) (cs' := [s10_2.val, i64 e_2]) rfl rfl rfl gsz77 rfl rfl (Nat.le_of_ble_eq_true rfl) rfl ?_
 refine Zl ?_
 cases hS
 exact VC.ret (finG (vs := [.agg #[s10_2.val, i64 e_2]]) (.inr rfl) rfl (RVs.cell gagg77 rfl rfl Rd.blk (RVs.nil)) ⟨s10_2, e_2⟩ rfl rfl (by (try dsimp only); exact InM.out) (fun _ _ => trivial))
theorem rectoref1_Parts_ct (p_0 : Str) {r : List Str} (hS : Sh.rectoref1_Parts p_0 = some r) :
 Ct Tryz.prog 256 [str p_0] Mo.tt (Ow.emp) (X := Sv Str) (fun x => x.val) (fun x => r = x.l) (fun x => Mo.tt) (fun x => Sv.own x 9) := by
 refine Ct.of Tryz.func256 rfl (by kernel_rfl) Tryz.ntmps256 (by simp) fun c => ?_
 unfold Sh.rectoref1_Parts at hS
 refine Zq (Zr ?_)
 refine Za ?_
 refine Zl ?_
 refine Zq (Zq (Zr ?_))
 refine Zm ?_
 refine Zs ?_
 refine Zl ?_
 refine VC.cond_dec rfl (fun h6 => ?_) (fun h6 => ?_)
 ·
  replace hS := it_t h6 hS
  refine Zq (Zr ?_)
  refine Za ?_
  refine Zl ?_
  refine VC.nilO (⟨none, 0, []⟩ : Sv Str) 9 ⟨rfl, rfl⟩ ?_
  cases hS
  exact VC.ret (fin1 (.inr rfl) rfl rfl ⟨none, 0, []⟩ rfl rfl (by (try dsimp only); exact InM.out) (by (try dsimp only); exact EntO.out))
 replace hS := it_f h6 hS
 refine Zk ?_
 refine Zq (Zr ?_)
 refine VL.litO (α := Str) (xs := [.const (str [])]) (vs := [str []]) [[]] Tryz.underlying32 glit9 (by decide) rfl rfl rfl rfl (by decide) (by decide) (fun s7_1 hs7_1 => ?_) (by decide)
 replace hS := lt_to hs7_1 hS
 refine Za ?_
 refine Zl ?_
 refine Zq (Zq (Zr ?_))
 refine Za ?_
 refine Zl ?_
 refine Zb ?_
 refine VC.iter (S := Sv Str × Int) (fun sg => (sg.1.l, sg.2)) (fun sg => [(0, str p_0), (3, sg.1.val), (4, i64 sg.2)]) (fun sg => Mo.tt) (fun sg => Ow.star (Sv.own sg.1 9) (Ow.emp)) (s7_1, 0) [0, 3, 4] hS rfl ?_
 clear hS
 rintro ⟨out3_3, i4_4⟩ m1 y1 hS hK1
 show VC _ _ _ _ _ [(0, str p_0), (3, out3_3.val), (4, i64 i4_4)] (Mo.and Mo.tt _) (Ow.star (Sv.own out3_3 9) (Ow.emp))
 refine Zq (Zq (Zr ?_))
 refine Zm ?_
 refine Zm ?_
 refine VL.q (q_slen Tryz.underlying9 rfl) (by decide) ?_
 refine VL.q (q_lss rfl rfl) (by decide) ?_
 refine Zl ?_
 refine VC.cond_dec rfl (fun h11 => ?_) (fun h11 => ?_)
 ·
  replace hS := it_t h11 hS
  refine Zk ?_
  refine VC.cutJ (S := Sv Str) (fun (out3_5 : Sv Str) => out3_5.l) (fun (out3_5 : Sv Str) => [(0, str p_0), (3, out3_5.val), (4, i64 i4_4)]) (fun (out3_5 : Sv Str) => Mo.tt) (fun (out3_5 : Sv Str) => Ow.star (Sv.own out3_5 9) (Ow.emp)) hS ?_ ?_
  ·
   clear hS
   intro k6 hS
   refine Zb (Zq (Zq (Zr ?_)))
   refine Zm ?_
   refine Zm ?_
   obtain ⟨z16_7, nz16_7, hz16_7, hS⟩ := at_s hS
   refine VL.q (q_sidx Tryz.underlying9 rfl rfl nz16_7 hz16_7) (by decide) ?_
   refine VL.q (q_eql rfl rfl) (by decide) ?_
   refine Zl ?_
   refine VC.keep [0, 3, 4, 17] rfl ?_
   refine VC.cond_dec rfl (fun h17 => ?_) (fun h17 => ?_)
   ·
    replace hS := it_t h17 hS
    refine Zq (Zr ?_)
    refine Zm ?_
    refine VL.lit (α := Str) (xs := [.const (str [])]) (vs := [str []]) [[]] Tryz.underlying32 glit9 (by decide) rfl rfl rfl rfl (by decide) (fun _ _ _ _ => trivial) (by decide) (fun s19_8 hs19_8 => ?_) (by decide)
    replace hS := lt_to hs19_8 hS
    obtain ⟨b20, hS⟩ := gd_s hS
    refine VL.app (s := out3_3) (r := s19_8) Tryz.underlying32 gapp9 (by decide) rfl Fo.out (ap1 b20) (ap2 b20 (by decide)) (by decide) (fun s20_10 hs20_10 => ?_)
    replace hS := lt_to hs20_10 hS
    refine Za ?_
    refine Zl ?_
    refine VC.exit_mt s20_10 [0, 3, 4] (fun _ _ h => h) hS rfl
   replace hS := it_f h17 hS
   refine Zk ?_
   refine VC.draw [(0, true), (1, true), (2, true), (3, true), (4, true), (5, true), (6, true), (7, true), (8, true), (9, true), (10, true), (11, true), (12, true), (13, true), (14, true), (15, true), (16, true), (17, false)] mixed (by kernel_rfl) (by kernel_rfl) (by kernel_rfl) ?_
   refine VD.q rfl (q_move rfl) (by decide) ?_
   refine VD.q rfl (q_move rfl) (by decide) ?_
   refine VD.q rfl (q_ln (s := out3_3) Tryz.underlying32 rfl) (by decide) ?_
   obtain ⟨b24, hS⟩ := gd_s hS
   refine VD.q rfl (q_sub rfl rfl b24) (by decide) ?_
   refine VD.q rfl (q_move rfl) (by decide) ?_
   refine VD.q rfl (q_move rfl) (by decide) ?_
   refine VD.q rfl (q_ln (s := out3_3) Tryz.underlying32 rfl) (by decide) ?_
   obtain ⟨b28, hS⟩ := gd_s hS
   refine VD.q rfl (q_sub rfl rfl b28) (by decide) ?_
   obtain ⟨z29_12, nz29_12, hz29_12, hS⟩ := at_s hS
   refine VD.q rfl (q_ixo (s := out3_3) Tryz.underlying32 gsz9 rfl rfl nz29_12 (lt_of_get nz29_12 hz29_12)) (by decide) ?_
   refine VD.q rfl (q_elo (s := out3_3) 9 gone9 rfl hz29_12 rfl) (by decide) ?_
   refine VD.q rfl (q_move rfl) (by decide) ?_
   refine VD.q rfl (q_move rfl) (by decide) ?_
   refine VD.q rfl (q_move rfl) (by decide) ?_
   obtain ⟨b34, hS⟩ := gd_s hS
   refine VD.q rfl (q_add rfl rfl b34) (by decide) ?_
   obtain ⟨b35, hS⟩ := gd_s hS
   obtain ⟨y35_13, ey35_13, hS⟩ := lt_s hS
   refine VD.q rfl (q_smidE Tryz.underlying9 rfl rfl rfl b35.1 b35.2.1 b35.2.2 ey35_13) (by decide) ?_
   obtain ⟨b36, hS⟩ := gd_s hS
   obtain ⟨y36_14, ey36_14, hS⟩ := lt_s hS
   refine VD.q rfl (q_catE rfl rfl b36 ey36_14) (by decide) ?_
   obtain ⟨z37_15, nz37_15, hz37_15, hS⟩ := at_s hS
   refine VD.q rfl (q_ixo (s := out3_3) Tryz.underlying32 gsz9 rfl rfl nz37_15 (lt_of_get nz37_15 hz37_15)) (by decide) ?_
   refine VD.one rfl ?_
   refine VL.storeE (s := out3_3) (T := 9) (j := 0) (vc := [str y36_14]) (y36_14 : Str) (by decide) rfl rfl hz37_15 rfl gsz9 rfl rfl (Nat.le_of_ble_eq_true rfl) rfl (fun w16 hw16 haw16 hcw16 hvw16 hbw16 how16 => ?_)
   rw [← hvw16]
   replace hS := lt_to hw16 hS
   refine VL.back (D' := []) (by kernel_rfl) (Pend.nil) ?_
   refine VD.mt w16 [0, 3, 4] (fun _ _ h => h) hS rfl
  clear hS
  rintro out3_5 hS
  show VC _ _ _ _ _ [(0, str p_0), (3, out3_5.val), (4, i64 i4_4)] (Mo.and Mo.tt _) (Ow.star (Sv.own out3_5 9) (Ow.emp))
  refine Zr ?_
  refine Zm ?_
  obtain ⟨b13, hS⟩ := gd_s hS
  refine VL.q (q_add rfl rfl b13) (by decide) ?_
  refine Za ?_
  refine VL.rnd (out3_5, (i4_4 + 1)) [0, 3, 4] (fun _ _ h => h) (go2 hS hK1) rfl
 replace hS := it_f h11 hS
 replace hS := up2 hS hK1
 refine Zx ?_
 refine Zq (Zr ?_)
 refine Zm ?_
 refine Za ?_
 refine Zl ?_
 cases hS
 exact VC.ret (fin1 (.inr rfl) rfl rfl out3_3 rfl rfl (by (try dsimp only); exact InM.out) (by (try dsimp only); exact EntO.out))
theorem rectoref1_good_ct (c_0 : Int) {r : Bool} (hS : Sh.rectoref1_good c_0 = some r) :
 Ct Tryz.prog 257 [.int .u8 c_0] Mo.tt (Ow.emp) (X := Unit) (fun _ => .bool r) (fun _ => True) (fun _ => Mo.tt) (fun _ => Ow.emp) := by
 refine Ct.of Tryz.func257 rfl (by kernel_rfl) Tryz.ntmps257 (by simp) fun c => ?_
 unfold Sh.rectoref1_good at hS
 refine Zq (Zr ?_)
 refine Za ?_
 refine Zl ?_
 refine Zq (Zr ?_)
 refine Zm ?_
 refine VL.q (q_geq rfl rfl) (by decide) ?_
 refine Zm ?_
 refine VL.split_dec 5 rfl (fun h5 => ?_) (fun h5 => ?_)
 ·
  replace hS := it_t h5 hS
  refine Zg ?_
  refine VL.gy rfl rfl (q_leq rfl rfl) (by decide) ?_
  refine Zt ?_
  refine Zm ?_
  refine VL.split_dec 9 rfl (fun h9 => ?_) (fun h9 => ?_)
  ·
   replace hS := it_t h9 hS
   refine Zn ?_
   refine Zn ?_
   refine Zn ?_
   refine VL.gu rfl rfl (by decide) ?_
   refine VL.gu rfl rfl (by decide) ?_
   refine Zn ?_
   refine Zt ?_
   refine Zm ?_
   refine Zn ?_
   refine Zn ?_
   refine Zt ?_
   refine Zm ?_
   refine Zn ?_
   refine Zn ?_
   refine Zt ?_
   refine Zm ?_
   refine Zn ?_
   refine Zn ?_
   refine Zt ?_
   refine Za ?_
   refine Zl ?_
   refine VC.keep [2] rfl ?_
   cases hS
   exact Ze
  replace hS := it_f h9 hS
  refine Zg ?_
  refine VL.gy rfl rfl (q_geq rfl rfl) (by decide) ?_
  refine Zg ?_
  refine VL.split_dec 12 rfl (fun h12 => ?_) (fun h12 => ?_)
  ·
   replace hS := it_t h12 hS
   refine Zg ?_
   refine VL.gy rfl rfl (q_leq rfl rfl) (by decide) ?_
   refine VL.gy rfl rfl (q_pick_t rfl rfl) (by decide) ?_
   refine Zf ?_
   refine Zm ?_
   refine VL.split_dec 17 rfl (fun h17 => ?_) (fun h17 => ?_)
   ·
    replace hS := it_t h17 hS
    refine Zn ?_
    refine Zn ?_
    refine Zt ?_
    refine Zm ?_
    refine Zn ?_
    refine Zn ?_
    refine Zt ?_
    refine Zm ?_
    refine Zn ?_
    refine Zn ?_
    refine Zt ?_
    refine Za ?_
    refine Zl ?_
    refine VC.keep [2] rfl ?_
    cases hS
    exact Ze
   replace hS := it_f h17 hS
   refine Zg ?_
   refine VL.gy rfl rfl (q_eql rfl rfl) (by decide) ?_
   refine Zf ?_
   refine Zm ?_
   refine VL.split_dec 21 rfl (fun h21 => ?_) (fun h21 => ?_)
   ·
    replace hS := it_t h21 hS
    refine Zn ?_
    refine Zn ?_
    refine Zt ?_
    refine Zm ?_
    refine Zn ?_
    refine Zn ?_
    refine Zt ?_
    refine Za ?_
    refine Zl ?_
    refine VC.keep [2] rfl ?_
    cases hS
    exact Ze
   replace hS := it_f h21 hS
   refine Zg ?_
   refine VL.gy rfl rfl (q_eql rfl rfl) (by decide) ?_
   refine Zf ?_
   refine Zm ?_
   refine VL.split_dec 25 rfl (fun h25 => ?_) (fun h25 => ?_)
   ·
    replace hS := it_t h25 hS
    refine Zn ?_
    refine Zn ?_
    refine Zt ?_
    refine Za ?_
    refine Zl ?_
    refine VC.keep [2] rfl ?_
    cases hS
    exact Ze
   replace hS := it_f h25 hS
   refine Zg ?_
   refine VL.gy rfl rfl (q_eql rfl rfl) (by decide) ?_
   refine Zf ?_
   refine Za ?_
   refine Zl ?_
   refine VC.keep [2] rfl ?_
   cases hS
   exact Ze
  replace hS := it_f h12 hS
  refine Zn ?_
  refine Zn ?_
  refine VL.gy rfl rfl (q_pick_f rfl rfl) (by decide) ?_
  refine Zf ?_
  refine Zm ?_
  refine Zg ?_
  refine VL.gy rfl rfl (q_eql rfl rfl) (by decide) ?_
  refine Zf ?_
  refine Zm ?_
  refine VL.split_dec 21 rfl (fun h21 => ?_) (fun h21 => ?_)
  ·
   replace hS := it_t h21 hS
   refine Zn ?_
   refine Zn ?_
   refine Zt ?_
   refine Zm ?_
   refine Zn ?_
   refine Zn ?_
   refine Zt ?_
   refine Za ?_
   refine Zl ?_
   refine VC.keep [2] rfl ?_
   cases hS
   exact Ze
  replace hS := it_f h21 hS
  refine Zg ?_
  refine VL.gy rfl rfl (q_eql rfl rfl) (by decide) ?_
  refine Zf ?_
  refine Zm ?_
  refine VL.split_dec 25 rfl (fun h25 => ?_) (fun h25 => ?_)
  ·
   replace hS := it_t h25 hS
   refine Zn ?_
   refine Zn ?_
   refine Zt ?_
   refine Za ?_
   refine Zl ?_
   refine VC.keep [2] rfl ?_
   cases hS
   exact Ze
  replace hS := it_f h25 hS
  refine Zg ?_
  refine VL.gy rfl rfl (q_eql rfl rfl) (by decide) ?_
  refine Zf ?_
  refine Za ?_
  refine Zl ?_
  refine VC.keep [2] rfl ?_
  cases hS
  exact Ze
 replace hS := it_f h5 hS
 refine Zn ?_
 refine Zn ?_
 refine Zf ?_
 refine Zm ?_
 refine Zg ?_
 refine VL.gy rfl rfl (q_geq rfl rfl) (by decide) ?_
 refine Zg ?_
 refine VL.split_dec 12 rfl (fun h12 => ?_) (fun h12 => ?_)
 ·
  replace hS := it_t h12 hS
  refine Zg ?_
  refine VL.gy rfl rfl (q_leq rfl rfl) (by decide) ?_
  refine VL.gy rfl rfl (q_pick_t rfl rfl) (by decide) ?_
  refine Zf ?_
  refine Zm ?_
  refine VL.split_dec 17 rfl (fun h17 => ?_) (fun h17 => ?_)
  ·
   replace hS := it_t h17 hS
   refine Zn ?_
   refine Zn ?_
   refine Zt ?_
   refine Zm ?_
   refine Zn ?_
   refine Zn ?_
   refine Zt ?_
   refine Zm ?_
   refine Zn ?_
   refine Zn ?_
   refine Zt ?_
   refine Za ?_
   refine Zl ?_
   refine VC.keep [2] rfl ?_
   cases hS
   exact Ze
  replace hS := it_f h17 hS
  refine Zg ?_
  refine VL.gy rfl rfl (q_eql rfl rfl) (by decide) ?_
  refine Zf ?_
  refine Zm ?_
  refine VL.split_dec 21 rfl (fun h21 => ?_) (fun h21 => ?_)
  ·
   replace hS := it_t h21 hS
   refine Zn ?_
   refine Zn ?_
   refine Zt ?_
   refine Zm ?_
   refine Zn ?_
   refine Zn ?_
   refine Zt ?_
   refine Za ?_
   refine Zl ?_
   refine VC.keep [2] rfl ?_
   cases hS
   exact Ze
  replace hS := it_f h21 hS
  refine Zg ?_
  refine VL.gy rfl rfl (q_eql rfl rfl) (by decide) ?_
  refine Zf ?_
  refine Zm ?_
  refine VL.split_dec 25 rfl (fun h25 => ?_) (fun h25 => ?_)
  ·
   replace hS := it_t h25 hS
   refine Zn ?_
   refine Zn ?_
   refine Zt ?_
   refine Za ?_
   refine Zl ?_
   refine VC.keep [2] rfl ?_
   cases hS
   exact Ze
  replace hS := it_f h25 hS
  refine Zg ?_
  refine VL.gy rfl rfl (q_eql rfl rfl) (by decide) ?_
  refine Zf ?_
  refine Za ?_
  refine Zl ?_
  refine VC.keep [2] rfl ?_
  cases hS
  exact Ze
 replace hS := it_f h12 hS
 refine Zn ?_
 refine Zn ?_
 refine VL.gy rfl rfl (q_pick_f rfl rfl) (by decide) ?_
 refine Zf ?_
 refine Zm ?_
 refine Zg ?_
 refine VL.gy rfl rfl (q_eql rfl rfl) (by decide) ?_
 refine Zf ?_
 refine Zm ?_
 refine VL.split_dec 21 rfl (fun h21 => ?_) (fun h21 => ?_)
 ·
  replace hS := it_t h21 hS
  refine Zn ?_
  refine Zn ?_
  refine Zt ?_
  refine Zm ?_
  refine Zn ?_
  refine Zn ?_
  refine Zt ?_
  refine Za ?_
  refine Zl ?_
  refine VC.keep [2] rfl ?_
  cases hS
  exact Ze
 replace hS := it_f h21 hS
 refine Zg ?_
 refine VL.gy rfl rfl (q_eql rfl rfl) (by decide) ?_
 refine Zf ?_
 refine Zm ?_
 refine VL.split_dec 25 rfl (fun h25 => ?_) (fun h25 => ?_)
 ·
  replace hS := it_t h25 hS
  refine Zn ?_
  refine Zn ?_
  refine Zt ?_
  refine Za ?_
  refine Zl ?_
  refine VC.keep [2] rfl ?_
  cases hS
  exact Ze
 replace hS := it_f h25 hS
 refine Zg ?_
 refine VL.gy rfl rfl (q_eql rfl rfl) (by decide) ?_
 refine Zf ?_
 refine Za ?_
 refine Zl ?_
 refine VC.keep [2] rfl ?_
 cases hS
 exact Ze
theorem rectoref1_Check_ct (p_0 : Str) {r : Int} (hS : Sh.rectoref1_Check p_0 = some r) :
 Ct Tryz.prog 187 [str p_0] Mo.tt (Ow.emp) (X := Unit) (fun _ => i64 r) (fun _ => True) (fun _ => Mo.tt) (fun _ => Ow.emp) := by
 refine Ct.of Tryz.func187 rfl (by kernel_rfl) Tryz.ntmps187 (by simp) fun c => ?_
 unfold Sh.rectoref1_Check at hS
 refine Zq (Zr ?_)
 refine Za ?_
 refine Zl ?_
 refine Zq (Zq (Zr ?_))
 refine Zm ?_
 refine VL.q (q_slen Tryz.underlying9 rfl) (by decide) ?_
 refine VL.q (q_gtr rfl rfl) (by decide) ?_
 refine Zl ?_
 refine VC.cond_dec rfl (fun h8 => ?_) (fun h8 => ?_)
 ·
  replace hS := it_t h8 hS
  refine Zq (Zr ?_)
  refine Za ?_
  refine Zl ?_
  cases hS
  exact Ze
 replace hS := it_f h8 hS
 refine Zk ?_
 refine Zq (Zr ?_)
 refine Zm ?_
 obtain ⟨y10_1, ey10_1, hS⟩ := bd_s hS
 refine VL.callO (rectoref1_Parts_ct p_0 ey10_1) rfl (by decide) ?_
 rintro q10_1_0 rfl
 try dsimp only
 refine Za ?_
 refine Zl ?_
 refine Zq (Zq (Zr ?_))
 refine Zm ?_
 refine VL.q (q_ln (s := q10_1_0) Tryz.underlying32 rfl) (by decide) ?_
 refine VL.q (q_eql rfl rfl) (by decide) ?_
 refine Zl ?_
 refine VC.keep [3, 13] rfl ?_
 refine VC.cond_dec rfl (fun h13 => ?_) (fun h13 => ?_)
 ·
  replace hS := it_t h13 hS
  refine Zq (Zr ?_)
  refine Za ?_
  refine Zl ?_
  cases hS
  exact Ze
 replace hS := it_f h13 hS
 refine Zk ?_
 refine Zq (Zq (Zr ?_))
 refine Za ?_
 refine Zl ?_
 refine Zb ?_
 refine VC.iter (S := Int) (fun (i4_2 : Int) => i4_2) (fun (i4_2 : Int) => [(3, q10_1_0.val), (4, i64 i4_2)]) (fun (i4_2 : Int) => Mo.tt) (fun (i4_2 : Int) => Ow.star (Sv.own q10_1_0 9) (Ow.emp)) 0 [3, 4] hS rfl ?_
 clear hS
 rintro i4_2 m1 y1 hS hK1
 show VC _ _ _ _ _ [(3, q10_1_0.val), (4, i64 i4_2)] (Mo.and Mo.tt _) (Ow.star (Sv.own q10_1_0 9) (Ow.emp))
 refine Zq (Zq (Zr ?_))
 refine Zm ?_
 refine Zm ?_
 refine VL.q (q_ln (s := q10_1_0) Tryz.underlying32 rfl) (by decide) ?_
 refine VL.q (q_lss rfl rfl) (by decide) ?_
 refine Zl ?_
 refine VC.cond_dec rfl (fun h17 => ?_) (fun h17 => ?_)
 ·
  replace hS := it_t h17 hS
  refine Zk ?_
  refine VC.cutJ (S := Unit) (fun (_ : Unit) => ()) (fun (_ : Unit) => [(3, q10_1_0.val), (4, i64 i4_2)]) (fun (_ : Unit) => Mo.tt) (fun (_ : Unit) => Ow.star (Sv.own q10_1_0 9) (Ow.emp)) hS ?_ ?_
  ·
   clear hS
   intro k3 hS
   refine Zb (Zq ?_)
   refine VC.cutJ (S := Bool) (fun (x38_4 : Bool) => x38_4) (fun (x38_4 : Bool) => [(3, q10_1_0.val), (4, i64 i4_2), (38, .bool x38_4)]) (fun (x38_4 : Bool) => Mo.tt) (fun (x38_4 : Bool) => Ow.star (Sv.own q10_1_0 9) (Ow.emp)) hS ?_ ?_
   ·
    clear hS
    intro k5 hS
    refine Zr ?_
    refine Zm ?_
    refine Zm ?_
    obtain ⟨z22_6, nz22_6, hz22_6, hS⟩ := at_s hS
    refine VL.q (q_ixo (s := q10_1_0) Tryz.underlying32 gsz9 rfl rfl nz22_6 (lt_of_get nz22_6 hz22_6)) (by decide) ?_
    refine VL.q (q_elo (s := q10_1_0) 9 gone9 rfl hz22_6 rfl) (by decide) ?_
    refine Zs ?_
    refine Zm ?_
    refine VL.split_dec 25 rfl (fun h25 => ?_) (fun h25 => ?_)
    ·
     replace hS := it_t h25 hS
     refine Zn ?_
     refine Zn ?_
     refine Zn ?_
     refine Zn ?_
     refine Zn ?_
     refine Zt ?_
     refine Zm ?_
     refine Zn ?_
     refine Zn ?_
     refine Zn ?_
     refine Zn ?_
     refine Zn ?_
     refine Zt ?_
     refine VL.mt true [3, 4, 38] (fun _ _ h => h) hS rfl
    replace hS := it_f h25 hS
    refine Zg ?_
    refine Zg ?_
    obtain ⟨z28_7, nz28_7, hz28_7, hS⟩ := at_s hS
    refine VL.gy rfl rfl (q_ixo (s := q10_1_0) Tryz.underlying32 gsz9 rfl rfl nz28_7 (lt_of_get nz28_7 hz28_7)) (by decide) ?_
    refine VL.gy rfl rfl (q_elo (s := q10_1_0) 9 gone9 rfl hz28_7 rfl) (by decide) ?_
    refine VL.gy rfl rfl (q_seq rfl rfl) (by decide) ?_
    refine Zf ?_
    refine Zm ?_
    refine VL.split_dec 32 rfl (fun h32 => ?_) (fun h32 => ?_)
    ·
     replace hS := it_t h32 hS
     refine Zn ?_
     refine Zn ?_
     refine Zn ?_
     refine Zn ?_
     refine Zn ?_
     refine Zt ?_
     refine VL.mt true [3, 4, 38] (fun _ _ h => h) hS rfl
    replace hS := it_f h32 hS
    refine Zg ?_
    refine Zg ?_
    obtain ⟨z35_8, nz35_8, hz35_8, hS⟩ := at_s hS
    refine VL.gy rfl rfl (q_ixo (s := q10_1_0) Tryz.underlying32 gsz9 rfl rfl nz35_8 (lt_of_get nz35_8 hz35_8)) (by decide) ?_
    refine VL.gy rfl rfl (q_elo (s := q10_1_0) 9 gone9 rfl hz35_8 rfl) (by decide) ?_
    refine VL.gy rfl rfl (q_seq rfl rfl) (by decide) ?_
    refine Zf ?_
    refine VL.mt (decide (z35_8 = [46, 46])) [3, 4, 38] (fun _ _ h => h) hS rfl
   clear hS
   rintro x38_4 hS
   show VC _ _ _ _ _ [(3, q10_1_0.val), (4, i64 i4_2), (38, .bool x38_4)] (Mo.and Mo.tt _) (Ow.star (Sv.own q10_1_0 9) (Ow.emp))
   refine VC.cond rfl (fun h38 => ?_) (fun h38 => ?_)
   ·
    replace hS := it_t h38 hS
    refine Zq (Zr ?_)
    refine Za ?_
    refine Zl ?_
    replace hS := up2 hS hK1
    cases hS
    exact Ze
   replace hS := it_b h38 hS
   refine Zk ?_
   refine Zq (Zr ?_)
   refine Za ?_
   refine Zl ?_
   refine Zb ?_
   refine VC.iter (S := Int) (fun (k5_9 : Int) => k5_9) (fun (k5_9 : Int) => [(3, q10_1_0.val), (4, i64 i4_2), (5, i64 k5_9)]) (fun (k5_9 : Int) => Mo.tt) (fun (k5_9 : Int) => Ow.star (Sv.own q10_1_0 9) (Ow.emp)) 0 [3, 4, 5] hS rfl ?_
   clear hS
   rintro k5_9 m2 y2 hS hK2
   show VC _ _ _ _ _ [(3, q10_1_0.val), (4, i64 i4_2), (5, i64 k5_9)] (Mo.and Mo.tt _) (Ow.star (Sv.own q10_1_0 9) (Ow.emp))
   refine Zq (Zq (Zr ?_))
   refine Zm ?_
   refine Zm ?_
   refine Zm ?_
   obtain ⟨z42_10, nz42_10, hz42_10, hS⟩ := at_s hS
   refine VL.q (q_ixo (s := q10_1_0) Tryz.underlying32 gsz9 rfl rfl nz42_10 (lt_of_get nz42_10 hz42_10)) (by decide) ?_
   refine VL.q (q_elo (s := q10_1_0) 9 gone9 rfl hz42_10 rfl) (by decide) ?_
   refine VL.q (q_slen Tryz.underlying9 rfl) (by decide) ?_
   refine VL.q (q_lss rfl rfl) (by decide) ?_
   refine Zl ?_
   refine VC.cond_dec rfl (fun h45 => ?_) (fun h45 => ?_)
   ·
    replace hS := it_t h45 hS
    refine Zk ?_
    refine Zq (Zb (Zq (Zr ?_)))
    refine Zm ?_
    refine Zm ?_
    obtain ⟨z50_11, nz50_11, hz50_11, hS⟩ := at_s hS
    refine VL.q (q_ixo (s := q10_1_0) Tryz.underlying32 gsz9 rfl rfl nz50_11 (lt_of_get nz50_11 hz50_11)) (by decide) ?_
    refine VL.q (q_elo (s := q10_1_0) 9 gone9 rfl hz50_11 rfl) (by decide) ?_
    refine Zm ?_
    obtain ⟨z53_12, nz53_12, hz53_12, hS⟩ := at_s hS
    refine VL.q (q_sidx Tryz.underlying9 rfl rfl nz53_12 hz53_12) (by decide) ?_
    obtain ⟨y54_13, ey54_13, hS⟩ := bd_s hS
    refine VL.q (q_call (rectoref1_good_ct (z53_12.toNat : Int) ey54_13) rfl (fun _ _ => rfl)) (by decide) ?_
    refine VL.q (q_not rfl) (by decide) ?_
    refine Zl ?_
    refine VC.keep [3, 4, 5, 55] rfl ?_
    refine VC.cond rfl (fun h55 => ?_) (fun h55 => ?_)
    ·
     replace hS := it_t h55 hS
     refine Zq (Zr ?_)
     refine Za ?_
     refine Zl ?_
     replace hS := up2 hS hK2
     replace hS := up2 hS hK1
     cases hS
     exact Ze
    replace hS := it_b h55 hS
    refine Zk ?_
    refine Zr ?_
    refine Zm ?_
    obtain ⟨b47, hS⟩ := gd_s hS
    refine VL.q (q_add rfl rfl b47) (by decide) ?_
    refine Za ?_
    refine VL.rnd (k5_9 + 1) [3, 4, 5] (fun _ _ h => h) (go2 hS hK2) rfl
   replace hS := it_f h45 hS
   replace hS := up2 hS hK2
   refine VC.exit_mt () [3, 4] (fun _ _ h => h) hS rfl
  clear hS
  rintro _ hS
  show VC _ _ _ _ _ [(3, q10_1_0.val), (4, i64 i4_2)] (Mo.and Mo.tt _) (Ow.star (Sv.own q10_1_0 9) (Ow.emp))
  refine Zr ?_
  refine Zm ?_
  obtain ⟨b19, hS⟩ := gd_s hS
  refine VL.q (q_add rfl rfl b19) (by decide) ?_
  refine Za ?_
  refine VL.rnd (i4_2 + 1) [3, 4] (fun _ _ h => h) (go2 hS hK1) rfl
 replace hS := it_f h17 hS
 replace hS := up2 hS hK1
 refine Zx ?_
 refine Zq (Zr ?_)
 refine Za ?_
 refine Zl ?_
 cases hS
 exact Ze
end Go.Proofs.YtpmhinamcndmeaaGreatDoor
end
