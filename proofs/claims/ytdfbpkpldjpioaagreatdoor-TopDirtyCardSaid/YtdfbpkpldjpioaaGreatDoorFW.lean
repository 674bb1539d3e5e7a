/- Part of the proofs of: What another branch has beyond one's own is taken as it is, and the second time there is nothing to do, for every number of commits. -/
import Derived.Test.YtdfbpkpldjpioaaGreatDoorFF
set_option linter.unusedVariables false
set_option linter.unusedSimpArgs false
set_option linter.unusedSectionVars false
section
set_option linter.unusedVariables false
namespace Go.Proofs.YtdfbpkpldjpioaaGreatDoor
set_option maxHeartbeats 4000000
set_option maxRecDepth 100000
set_option synthInstance.maxSize 2000
set_option synthInstance.maxHeartbeats 1000000
open Go.RowKit Go.V
open Go.S hiding Str
theorem state_sameNow_ct (a_0 : StateNow) (b_1 : StateNow) {r : Bool} (hS : Sh.state_sameNow a_0.pl b_1.pl = some r) :
 Ct Tryz.prog 18 [.agg (zStateNow a_0).toArray, .agg (zStateNow b_1).toArray] (a_0.work.ok.and (a_0.index.ok.and (a_0.refs.ok.and (a_0.seq_doing.ok.and (a_0.seq_todo.ok.and (a_0.seq_index.ok.and (a_0.seq_work.ok.and (a_0.stash.ok.and (b_1.work.ok.and (b_1.index.ok.and (b_1.refs.ok.and (b_1.seq_doing.ok.and (b_1.seq_todo.ok.and (b_1.seq_index.ok.and (b_1.seq_work.ok.and b_1.stash.ok))))))))))))))) (Ow.emp) (X := Unit) (fun _ => .bool r) (fun _ => True) (fun _ => Mo.tt) (fun _ => Ow.emp) := by
 refine Zo Tryz.func18 Tryz.ntmps18 fun c => ?_
 unfold Sh.state_sameNow at hS
 refine Zq (Zr ?_)
 refine VL.box (cs := (zStateNow a_0)) rfl rfl (by decide) fun b2_1 => ?_
 refine VL.box (cs := (zStateNow b_1)) rfl rfl (by decide) fun b3_2 => ?_
 refine Zy ?_
 refine Zq (Zr ?_)
 refine Zu (q_field gfa35_0 rfl) ?_
 refine Zu (q_fe gone24 rfl rfl) ?_
 refine Zu (q_field gfa35_0 rfl) ?_
 refine Zu (q_fe gone24 rfl rfl) ?_
 obtain ⟨y9_3, ey9_3, hS⟩ := bd_s hS
 refine Zu (q_call (files_Row_Same_ct a_0.work b_1.work ey9_3) rfl (fun _ _ => rfl)) ?_
 refine Zm ?_
 refine Zspb 10 hS (fun h10 hS => ?_) (fun h10 hS => ?_)
 ·
  refine Zh (q_field gfa35_1 rfl) ?_
  refine Zh (q_fe gone25 rfl rfl) ?_
  refine Zh (q_field gfa35_1 rfl) ?_
  refine Zh (q_fe gone25 rfl rfl) ?_
  obtain ⟨y15_4, ey15_4, hS⟩ := bd_s hS
  refine Zh (q_call (index_Same_ct a_0.index b_1.index ey15_4) rfl (fun _ _ => rfl)) ?_
  refine Zy ?_
  refine Zspb 17 hS (fun h17 hS => ?_) (fun h17 hS => ?_)
  ·
   refine Zh (q_field gfa35_2 rfl) ?_
   refine Zh (q_fe gone26 rfl rfl) ?_
   refine Zh (q_field gfa35_2 rfl) ?_
   refine Zh (q_fe gone26 rfl rfl) ?_
   obtain ⟨y22_5, ey22_5, hS⟩ := bd_s hS
   refine Zh (q_call (slices_Equal_names_Ref_names_Ref_ct a_0.refs b_1.refs ey22_5) rfl (fun _ _ => rfl)) ?_
   refine Zy ?_
   refine Zspb 24 hS (fun h24 hS => ?_) (fun h24 hS => ?_)
   ·
    refine Zh (q_field gfa35_3 rfl) ?_
    refine Zh (q_fep (j := 3) (n := 2) gagg28 rfl rfl rfl) ?_
    refine Zh (q_field gfa35_3 rfl) ?_
    refine Zh (q_fep (j := 3) (n := 2) gagg28 rfl rfl rfl) ?_
    refine Zh (q_steql geqg28 (geqs28 a_0.head_branch a_0.head_commit b_1.head_branch b_1.head_commit) rfl rfl) ?_
    refine Zy ?_
    refine Zsp 31 hS (fun h31 hS => ?_) (fun h31 hS => ?_)
    ·
     refine Zh (q_field gfa35_4 rfl) ?_
     refine Zh (q_fep (j := 5) (n := 11) gagg31 rfl rfl rfl) ?_
     refine Zh (q_field gfa35_4 rfl) ?_
     refine Zh (q_fep (j := 5) (n := 11) gagg31 rfl rfl rfl) ?_
     obtain ⟨y36_6, ey36_6, hS⟩ := bd_s hS
     refine Zh (q_call (state_sameSeq_ct (⟨a_0.seq_kind, a_0.seq_other, a_0.seq_text, a_0.seq_doing, a_0.seq_todo, a_0.seq_made, a_0.seq_branch, a_0.seq_head_branch, a_0.seq_head_commit, a_0.seq_index, a_0.seq_work⟩ : StateSeq) (⟨b_1.seq_kind, b_1.seq_other, b_1.seq_text, b_1.seq_doing, b_1.seq_todo, b_1.seq_made, b_1.seq_branch, b_1.seq_head_branch, b_1.seq_head_commit, b_1.seq_index, b_1.seq_work⟩ : StateSeq) ey36_6) rfl (fun _ _ => rfl)) ?_
     refine Zy ?_
     refine Zspb 38 hS (fun h38 hS => ?_) (fun h38 hS => ?_)
     ·
      refine Zh (q_field gfa35_5 rfl) ?_
      refine Zh (q_fe gone33 rfl rfl) ?_
      refine Zh (q_field gfa35_5 rfl) ?_
      refine Zh (q_fe gone33 rfl rfl) ?_
      obtain ⟨y43_7, ey43_7, hS⟩ := bd_s hS
      refine Zh (q_call (shelf_Stack_Same_ct a_0.stash b_1.stash ey43_7) rfl (fun _ _ => rfl)) ?_
      refine Zy ?_
      refine VC.keep (ρ' := [(4, .bool y43_7)]) [4] rfl ?_
      cases hS
      exact Ze
     refine VL.skips 5 [43] (by kernel_rfl) ?_
     refine Zy ?_
     refine VC.keep (ρ' := [(4, .bool false)]) [4] rfl ?_
     cases hS
     exact Ze
    refine VL.skips 5 [36] (by kernel_rfl) ?_
    refine Zf ?_
    refine Zm ?_
    refine VL.skips 5 [43] (by kernel_rfl) ?_
    refine Zy ?_
    refine VC.keep (ρ' := [(4, .bool false)]) [4] rfl ?_
    cases hS
    exact Ze
   refine VL.skips 5 [29] (by kernel_rfl) ?_
   refine Zf ?_
   refine Zm ?_
   refine VL.skips 5 [36] (by kernel_rfl) ?_
   refine Zf ?_
   refine Zm ?_
   refine VL.skips 5 [43] (by kernel_rfl) ?_
   refine Zy ?_
   refine VC.keep (ρ' := [(4, .bool false)]) [4] rfl ?_
   cases hS
   exact Ze
  refine VL.skips 5 [22] (by kernel_rfl) ?_
  refine Zf ?_
  refine Zm ?_
  refine VL.skips 5 [29] (by kernel_rfl) ?_
  refine Zf ?_
  refine Zm ?_
  refine VL.skips 5 [36] (by kernel_rfl) ?_
  refine Zf ?_
  refine Zm ?_
  refine VL.skips 5 [43] (by kernel_rfl) ?_
  refine Zy ?_
  refine VC.keep (ρ' := [(4, .bool false)]) [4] rfl ?_
  cases hS
  exact Ze
 refine VL.skips 5 [15] (by kernel_rfl) ?_
 refine Zf ?_
 refine Zm ?_
 refine VL.skips 5 [22] (by kernel_rfl) ?_
 refine Zf ?_
 refine Zm ?_
 refine VL.skips 5 [29] (by kernel_rfl) ?_
 refine Zf ?_
 refine Zm ?_
 refine VL.skips 5 [36] (by kernel_rfl) ?_
 refine Zf ?_
 refine Zm ?_
 refine VL.skips 5 [43] (by kernel_rfl) ?_
 refine Zy ?_
 refine VC.keep (ρ' := [(4, .bool false)]) [4] rfl ?_
 cases hS
 exact Ze
theorem slices_Equal_int_int_ct (s1_0 : Sv Int) (s2_1 : Sv Int) {r : Bool} (hS : Sh.slices_Equal_int_int s1_0.l s2_1.l = some r) :
 Ct Tryz.prog 42 [s1_0.val, s2_1.val] (s1_0.ok.and s2_1.ok) (Ow.emp) (X := Unit) (fun _ => .bool r) (fun _ => True) (fun _ => Mo.tt) (fun _ => Ow.emp) := by
 refine Zo Tryz.func42 Tryz.ntmps42 fun c => ?_
 unfold Sh.slices_Equal_int_int at hS
 refine Zq (Zr ?_)
 refine Zy ?_
 refine Zq (Zq (Zr ?_))
 refine Zm ?_
 refine Zu (q_ln (s := s1_0) Tryz.underlying56 rfl) ?_
 refine Zm ?_
 refine Zu (q_ln (s := s2_1) Tryz.underlying56 rfl) ?_
 refine Zu (q_neq rfl rfl) ?_
 refine Zl ?_
 refine Zcn hS (fun h10 hS => ?_) (fun h10 hS => ?_)
 ·
  refine Zq (Zr ?_)
  refine Zy ?_
  cases hS
  exact Ze
 refine Zk ?_
 refine Zq (Zq (Zr ?_))
 refine Zm ?_
 refine Zu (q_ln (s := s1_0) Tryz.underlying56 rfl) ?_
 refine Zy ?_
 refine VC.keep (ρ' := [(0, s1_0.val), (1, s2_1.val), (12, i64 (s1_0.l.length : Int)), (13, i64 0)]) [0, 1, 12, 13] rfl ?_
 refine Zb ?_
 refine VC.iter (S := Int) (fun (x13_1 : Int) => x13_1) (fun (x13_1 : Int) => [(0, s1_0.val), (1, s2_1.val), (12, i64 (s1_0.l.length : Int)), (13, i64 x13_1)]) (fun (x13_1 : Int) => Mo.tt) (fun (x13_1 : Int) => Ow.emp) 0 [0, 1, 12, 13] hS rfl ?_
 clear hS
 rintro x13_1 m1 y1 hS hK1
 refine Zq (Zr ?_)
 refine Zu (q_lss rfl rfl) ?_
 refine Zl ?_
 refine Zq ?_
 refine Zc hS (fun h14 hS => ?_) (fun h14 hS => ?_)
 ·
  refine Zk ?_
  refine Zq (Zb (Zq (Zr ?_)))
  refine Zy ?_
  refine Zq ?_
  refine VC.draw ((List.range 9).map fun k => (k, true)) mixed (by kernel_rfl) (by kernel_rfl) (by kernel_rfl) ?_
  refine Zw rfl (q_move rfl) ?_
  refine Zw rfl (q_move rfl) ?_
  obtain ⟨z18_2, nz18_2, hz18_2, hS⟩ := at_s hS
  refine Zw rfl (q_ixm (s := s1_0) Tryz.underlying56 gsz3 rfl rfl nz18_2 (lt_of_get nz18_2 hz18_2)) ?_
  refine Zw rfl (q_el (s := s1_0) gone3 rfl hz18_2 rfl) ?_
  refine Zw rfl (q_move rfl) ?_
  refine Zw rfl (q_move rfl) ?_
  obtain ⟨z22_3, nz22_3, hz22_3, hS⟩ := at_s hS
  refine Zw rfl (q_ixm (s := s2_1) Tryz.underlying56 gsz3 rfl rfl nz22_3 (lt_of_get nz22_3 hz22_3)) ?_
  refine Zw rfl (q_el (s := s2_1) gone3 rfl hz22_3 rfl) ?_
  refine Zw rfl (q_neq rfl rfl) ?_
  refine VD.to (fun _ _ h => h) ?_
  refine VC.keep (ρ' := [(0, s1_0.val), (1, s2_1.val), (12, i64 (s1_0.l.length : Int)), (13, i64 x13_1), (24, .bool (!decide (z18_2 = z22_3)))]) [0, 1, 12, 13, 24] rfl ?_
  refine Zcn hS (fun h24 hS => ?_) (fun h24 hS => ?_)
  ·
   refine Zq (Zr ?_)
   refine Zy ?_
   replace hS := up2 hS hK1
   cases hS
   exact Ze
  refine Zk ?_
  refine Zr ?_
  obtain ⟨b25, hS⟩ := gd_s hS
  refine Zu (q_add rfl rfl b25) ?_
  refine Zm ?_
  refine VL.rnd (x13_1 + 1) [0, 1, 12, 13] (fun _ _ h => h) (go2 hS hK1) rfl
 replace hS := up2 hS hK1
 refine Zx ?_
 refine Zq (Zr ?_)
 refine Zy ?_
 cases hS
 exact Ze
theorem state_sameCommit_ct (a_0 : StateCommit) (b_1 : StateCommit) {r : Bool} (hS : Sh.state_sameCommit a_0.pl b_1.pl = some r) :
 Ct Tryz.prog 20 [.agg #[a_0.tree.val, a_0.parents.val, i64 a_0.time, str a_0.text], .agg #[b_1.tree.val, b_1.parents.val, i64 b_1.time, str b_1.text]] (a_0.tree.ok.and (a_0.parents.ok.and (b_1.tree.ok.and b_1.parents.ok))) (Ow.emp) (X := Unit) (fun _ => .bool r) (fun _ => True) (fun _ => Mo.tt) (fun _ => Ow.emp) := by
 refine Zo Tryz.func20 Tryz.ntmps20 fun c => ?_
 unfold Sh.state_sameCommit at hS
 refine Zq (Zr ?_)
 refine VL.box (cs := [a_0.tree.val, a_0.parents.val, i64 a_0.time, str a_0.text]) rfl rfl (by decide) fun b2_1 => ?_
 refine VL.box (cs := [b_1.tree.val, b_1.parents.val, i64 b_1.time, str b_1.text]) rfl rfl (by decide) fun b3_2 => ?_
 refine Zy ?_
 refine Zq (Zr ?_)
 refine Zu (q_field gfa58_0 rfl) ?_
 refine Zu (q_fe gone24 rfl rfl) ?_
 refine Zu (q_field gfa58_0 rfl) ?_
 refine Zu (q_fe gone24 rfl rfl) ?_
 obtain ⟨y9_3, ey9_3, hS⟩ := bd_s hS
 refine Zu (q_call (files_Row_Same_ct a_0.tree b_1.tree ey9_3) rfl (fun _ _ => rfl)) ?_
 refine Zm ?_
 refine Zspb 10 hS (fun h10 hS => ?_) (fun h10 hS => ?_)
 ·
  refine Zh (q_field gfa58_1 rfl) ?_
  refine Zh (q_fe gone56 rfl rfl) ?_
  refine Zh (q_field gfa58_1 rfl) ?_
  refine Zh (q_fe gone56 rfl rfl) ?_
  obtain ⟨y15_4, ey15_4, hS⟩ := bd_s hS
  refine Zh (q_call (slices_Equal_int_int_ct a_0.parents b_1.parents ey15_4) rfl (fun _ _ => rfl)) ?_
  refine Zy ?_
  refine Zspb 17 hS (fun h17 hS => ?_) (fun h17 hS => ?_)
  ·
   refine Zh (q_field gfa58_2 rfl) ?_
   refine Zh (q_fe gone3 rfl rfl) ?_
   refine Zh (q_field gfa58_2 rfl) ?_
   refine Zh (q_fe gone3 rfl rfl) ?_
   refine Zh (q_eql rfl rfl) ?_
   refine Zy ?_
   refine Zsp 24 hS (fun h24 hS => ?_) (fun h24 hS => ?_)
   ·
    refine Zh (q_field gfa58_3 rfl) ?_
    refine Zh (q_fe gone9 rfl rfl) ?_
    refine Zh (q_field gfa58_3 rfl) ?_
    refine Zh (q_fe gone9 rfl rfl) ?_
    refine Zh (q_seq rfl rfl) ?_
    refine Zy ?_
    refine VC.keep (ρ' := [(4, .bool (decide (a_0.text = b_1.text)))]) [4] rfl ?_
    cases hS
    exact Ze
   refine VL.skips 5 [29] (by kernel_rfl) ?_
   refine Zy ?_
   refine VC.keep (ρ' := [(4, .bool false)]) [4] rfl ?_
   cases hS
   exact Ze
  refine VL.skips 5 [22] (by kernel_rfl) ?_
  refine Zf ?_
  refine Zm ?_
  refine VL.skips 5 [29] (by kernel_rfl) ?_
  refine Zy ?_
  refine VC.keep (ρ' := [(4, .bool false)]) [4] rfl ?_
  cases hS
  exact Ze
 refine VL.skips 5 [15] (by kernel_rfl) ?_
 refine Zf ?_
 refine Zm ?_
 refine VL.skips 5 [22] (by kernel_rfl) ?_
 refine Zf ?_
 refine Zm ?_
 refine VL.skips 5 [29] (by kernel_rfl) ?_
 refine Zy ?_
 refine VC.keep (ρ' := [(4, .bool false)]) [4] rfl ?_
 cases hS
 exact Ze
theorem slices_EqualFunc_state_Commit_state_Commit_state_Commit_state_Commit_ct (s1_0 : Sv StateCommit) (s2_1 : Sv StateCommit) {r : Bool} (hS : Sh.slices_EqualFunc_state_Commit_state_Commit_state_Commit_state_Commit (s1_0.l.map StateCommit.pl) (s2_1.l.map StateCommit.pl) = some r) :
 Ct Tryz.prog 19 [s1_0.val, s2_1.val, .func (.func 20) #[] #[]] (s1_0.ok.and s2_1.ok) (Ow.emp) (X := Unit) (fun _ => .bool r) (fun _ => True) (fun _ => Mo.tt) (fun _ => Ow.emp) := by
 refine Zo Tryz.func19 Tryz.ntmps19 fun c => ?_
 unfold Sh.slices_EqualFunc_state_Commit_state_Commit_state_Commit_state_Commit at hS
 refine Zq (Zr ?_)
 refine Zy ?_
 refine Zq (Zq (Zr ?_))
 refine Zm ?_
 refine Zu (q_lnm StateCommit.pl (s := s1_0) Tryz.underlying36 rfl) ?_
 refine Zm ?_
 refine Zu (q_lnm StateCommit.pl (s := s2_1) Tryz.underlying36 rfl) ?_
 refine Zu (q_neq rfl rfl) ?_
 refine Zl ?_
 refine Zcn hS (fun h14 hS => ?_) (fun h14 hS => ?_)
 ·
  refine Zq (Zr ?_)
  refine Zy ?_
  cases hS
  exact Ze
 refine Zk ?_
 refine Zq (Zq (Zr ?_))
 refine Zm ?_
 refine Zu (q_lnm StateCommit.pl (s := s1_0) Tryz.underlying36 rfl) ?_
 refine Zy ?_
 refine VC.keep (ρ' := [(1, s2_1.val), (2, .func (.func 20) #[] #[]), (15, s1_0.val), (16, i64 ((s1_0.l.map StateCommit.pl).length : Int)), (17, i64 0)]) [1, 2, 15, 16, 17] rfl ?_
 refine Zb ?_
 refine VC.iter (S := Int) (fun (x17_1 : Int) => x17_1) (fun (x17_1 : Int) => [(1, s2_1.val), (2, .func (.func 20) #[] #[]), (15, s1_0.val), (16, i64 ((s1_0.l.map StateCommit.pl).length : Int)), (17, i64 x17_1)]) (fun (x17_1 : Int) => Mo.tt) (fun (x17_1 : Int) => Ow.emp) 0 [1, 2, 15, 16, 17] hS rfl ?_
 clear hS
 rintro x17_1 m1 y1 hS hK1
 refine Zq (Zr ?_)
 refine Zu (q_lss rfl rfl) ?_
 refine Zl ?_
 refine Zq ?_
 refine Zc hS (fun h18 hS => ?_) (fun h18 hS => ?_)
 ·
  refine Zk ?_
  refine Zq (Zb (Zq (Zr ?_)))
  refine Zm ?_
  obtain ⟨z20_2, nz20_2, hz20_2, hS⟩ := atm_s hS
  refine VL.deep z20_2.m hz20_2 (fun _ q => q) ?_
  refine Zu (q_ixm (s := s1_0) Tryz.underlying36 gsz58 rfl rfl nz20_2 (lt_of_get nz20_2 hz20_2)) ?_
  refine Zu (q_els (s := s1_0) gagg58 rfl rfl hz20_2) ?_
  refine VL.alloc (cs := [.slice none 0 0, .slice none 0 0, i64 0, str []]) (by kernel_rfl) (by decide) fun b8_3 => ?_
  refine Za ?_
  refine Zv (vc := [z20_2.tree.val, z20_2.parents.val, i64 z20_2.time, str z20_2.text]) (cs' := [z20_2.tree.val, z20_2.parents.val, i64 z20_2.time, str z20_2.text]) rfl gsz58 ?_
  refine Zl ?_
  refine Zq (Zr ?_)
  refine Zy ?_
  obtain ⟨z24_4, nz24_4, hz24_4, hS⟩ := atm_s hS
  refine VL.deep z24_4.m hz24_4 (fun _ q => q) ?_
  refine Zu (q_ixm (s := s2_1) Tryz.underlying36 gsz58 rfl rfl nz24_4 (lt_of_get nz24_4 hz24_4)) ?_
  refine Zu (q_els (s := s2_1) gagg58 rfl rfl hz24_4) ?_
  refine VL.alloc (cs := [.slice none 0 0, .slice none 0 0, i64 0, str []]) (by kernel_rfl) (by decide) fun b9_5 => ?_
  refine Zv (vc := [z24_4.tree.val, z24_4.parents.val, i64 z24_4.time, str z24_4.text]) (cs' := [z24_4.tree.val, z24_4.parents.val, i64 z24_4.time, str z24_4.text]) rfl gsz58 ?_
  refine Zl ?_
  refine VC.keep (ρ' := [(1, s2_1.val), (2, .func (.func 20) #[] #[]), (15, s1_0.val), (16, i64 ((s1_0.l.map StateCommit.pl).length : Int)), (17, i64 x17_1), (8, ptr b8_3 0), (9, ptr b9_5 0)]) [1, 2, 15, 16, 17, 8, 9] rfl ?_
  refine Zq (Zr ?_)
  refine Zm ?_
  refine Zu (q_fes gagg58 rfl rfl) ?_
  refine Zu (q_fes gagg58 rfl rfl) ?_
  obtain ⟨y29_6, ey29_6, hS⟩ := bd_s hS
  refine Zu (q_callV (state_sameCommit_ct z20_2 z24_4 ey29_6) rfl rfl (fun _ _ => rfl)) ?_
  refine Zu (q_not rfl) ?_
  refine Zl ?_
  refine Zcb hS (fun h30 hS => ?_) (fun h30 hS => ?_)
  ·
   refine Zq (Zr ?_)
   refine Zy ?_
   refine VC.keep (ρ' := [(6, .bool false)]) [6] rfl ?_
   replace hS := up2 hS hK1
   cases hS
   exact Ze
  refine Zk ?_
  refine VC.keep (ρ' := [(1, s2_1.val), (2, .func (.func 20) #[] #[]), (15, s1_0.val), (16, i64 ((s1_0.l.map StateCommit.pl).length : Int)), (17, i64 x17_1)]) [1, 2, 15, 16, 17] rfl ?_
  refine Zr ?_
  obtain ⟨b31, hS⟩ := gd_s hS
  refine Zu (q_add rfl rfl b31) ?_
  refine Zm ?_
  refine VL.rnd (x17_1 + 1) [1, 2, 15, 16, 17] (fun _ _ h => h) (go2 hS hK1) rfl
 replace hS := up2 hS hK1
 refine Zx ?_
 refine Zq (Zr ?_)
 refine Zy ?_
 cases hS
 exact Ze
theorem state_Unmark_ct (s_0 : Str) {r : StateNowP × Err} (hS : Sh.state_Unmark s_0 = some r) :
 Ct Tryz.prog 43 [str s_0] Mo.tt (Ow.emp) (X := StateNow × Er) (fun x => .tuple #[.agg (Dat.enc x.1).toArray, x.2.val]) (fun x => r = (x.1.pl, x.2.pl)) (fun x => (x.1.m.and x.2.ok)) (fun x => Ow.emp) := by
 refine Zo Tryz.func43 Tryz.ntmps43 fun c => ?_
 unfold Sh.state_Unmark at hS
 refine Zq (Zr ?_)
 refine VL.alloc (cs := [.slice none 0 0, .slice none 0 0, .slice none 0 0, str [], i64 0, str [], i64 0, str [], .slice none 0 0, .slice none 0 0, i64 0, str [], str [], i64 0, .slice none 0 0, .slice none 0 0, .slice none 0 0]) (by kernel_rfl) (by decide) fun b2_1 => ?_
 refine Zy ?_
 refine Zq (Zr ?_)
 refine Zm ?_
 obtain ⟨b8, hS⟩ := gd_s hS
 refine VL.s2b Tryz.underlying9 Tryz.underlying64 Tryz.underlying5 rfl b8 (by decide) fun s8_2 hs8_2 => ?_
 replace hS := lt_to hs8_2 hS
 obtain ⟨y9_4, ey9_4, hS⟩ := bd_s hS
 refine VL.callO (codec_Of_ct s8_2 ey9_4) rfl (by decide) ?_
 rintro ⟨q9_4_0, q9_4_1⟩ rfl
 try dsimp only
 refine Zu (q_build (vs := [(0, ptr q9_4_0 0)]) (cs := #[ptr q9_4_0 0, .bool false]) rfl (by kernel_rfl)) ?_
 refine VL.box (cs := [ptr q9_4_0 0, .bool false]) rfl rfl (by decide) fun b11_5 => ?_
 refine Zy ?_
 refine Zq (Zr ?_)
 refine Zm ?_
 obtain ⟨y13_6, ey13_6, hS⟩ := bd_s hS
 refine VL.callO (state_reader_now_ct b11_5 (⟨false⟩ : StateReader) q9_4_0 q9_4_1 ey13_6) rfl (by decide) ?_
 rintro ⟨q13_6_0, q13_6_1, q13_6_2⟩ rfl
 try dsimp only
 refine VL.alloc (cs := [.slice none 0 0, .slice none 0 0, .slice none 0 0, str [], i64 0, str [], i64 0, str [], .slice none 0 0, .slice none 0 0, i64 0, str [], str [], i64 0, .slice none 0 0, .slice none 0 0, .slice none 0 0]) (by kernel_rfl) (by decide) fun b5_7 => ?_
 refine Zv (vc := (zStateNow q13_6_0)) (cs' := (zStateNow q13_6_0)) rfl gsz35 ?_
 refine Zl ?_
 refine VC.keep (ρ' := [(2, ptr b2_1 0), (4, ptr b11_5 0), (5, ptr b5_7 0)]) [2, 4, 5] rfl ?_
 refine Zq (Zq (Zr ?_))
 refine Zm ?_
 obtain ⟨y15_8, ey15_8, hS⟩ := bd_s hS
 refine VL.callO (state_reader_end_ct b11_5 q13_6_2 q9_4_0 q13_6_1 ey15_8) rfl (by decide) ?_
 rintro q15_8_0 rfl
 try dsimp only
 refine Zy ?_
 refine Zq (Zr ?_)
 refine Zm ?_
 refine Zu (q_erne Tryz.underlying45 rfl) ?_
 refine Zl ?_
 refine Zcn hS (fun h17 hS => ?_) (fun h17 hS => ?_)
 ·
  refine Zq ?_
  cases hS
 refine Zk ?_
 refine Zq (Zr ?_)
 refine Zu (q_fes gagg35 rfl rfl) ?_
 refine Zv (vc := (zStateNow q13_6_0)) (cs' := (zStateNow q13_6_0)) rfl gsz35 ?_
 refine Zy ?_
 cases hS
 exact VC.ret (finG (vs := [.agg (zStateNow q13_6_0).toArray, .nilIface]) (.inr rfl) rfl (RVs.cell gagg35 rfl rfl Rd.blk (RVs.tmp rfl (RVs.nil))) (q13_6_0, .nil) rfl rfl (by (try dsimp only); exact InM.out) (fun _ _ => trivial))
theorem state_sameMark_ct (a_0 : Str) (b_1 : Str) {r : Bool} (hS : Sh.state_sameMark a_0 b_1 = some r) :
 Ct Tryz.prog 22 [str a_0, str b_1] Mo.tt (Ow.emp) (X := Unit) (fun _ => .bool r) (fun _ => True) (fun _ => Mo.tt) (fun _ => Ow.emp) := by
 refine Zo Tryz.func22 Tryz.ntmps22 fun c => ?_
 unfold Sh.state_sameMark at hS
 refine Zq (Zr ?_)
 refine Zy ?_
 refine Zq (Zr ?_)
 refine Zm ?_
 obtain ⟨y11_1, ey11_1, hS⟩ := bd_s hS
 refine VL.callF (state_Unmark_ct a_0 ey11_1) rfl (by decide) ?_
 rintro ⟨q11_1_0, q11_1_1⟩ rfl
 try dsimp only
 refine Zm ?_
 refine Zu (q_extract rfl rfl) ?_
 refine Zu (q_extract rfl rfl) ?_
 refine VL.alloc (cs := [.slice none 0 0, .slice none 0 0, .slice none 0 0, str [], i64 0, str [], i64 0, str [], .slice none 0 0, .slice none 0 0, i64 0, str [], str [], i64 0, .slice none 0 0, .slice none 0 0, .slice none 0 0]) (by kernel_rfl) (by decide) fun b5_2 => ?_
 refine Zv (vc := (zStateNow q11_1_0)) (cs' := (zStateNow q11_1_0)) rfl gsz35 ?_
 refine Zy ?_
 refine Zq (Zr ?_)
 refine Zm ?_
 obtain ⟨y16_3, ey16_3, hS⟩ := bd_s hS
 refine VL.callF (state_Unmark_ct b_1 ey16_3) rfl (by decide) ?_
 rintro ⟨q16_3_0, q16_3_1⟩ rfl
 try dsimp only
 refine Zm ?_
 refine Zu (q_extract rfl rfl) ?_
 refine Zu (q_extract rfl rfl) ?_
 refine VL.alloc (cs := [.slice none 0 0, .slice none 0 0, .slice none 0 0, str [], i64 0, str [], i64 0, str [], .slice none 0 0, .slice none 0 0, i64 0, str [], str [], i64 0, .slice none 0 0, .slice none 0 0, .slice none 0 0]) (by kernel_rfl) (by decide) fun b7_4 => ?_
 refine Zv (vc := (zStateNow q16_3_0)) (cs' := (zStateNow q16_3_0)) rfl gsz35 ?_
 refine Zy ?_
 refine VC.keep (ρ' := [(0, str a_0), (1, str b_1), (5, ptr b5_2 0), (6, q11_1_1.val), (7, ptr b7_4 0), (8, q16_3_1.val)]) [0, 1, 5, 6, 7, 8] rfl ?_
 refine Zq ?_
 refine VC.cutJ (S := Bool) (fun (x24_5 : Bool) => x24_5) (fun (x24_5 : Bool) => [(0, str a_0), (1, str b_1), (5, ptr b5_2 0), (7, ptr b7_4 0), (24, .bool x24_5)]) (fun (x24_5 : Bool) => Mo.tt) (fun (x24_5 : Bool) => Ow.star (Blk b7_4 (zStateNow q16_3_0) 35) (Ow.star (Blk b5_2 (zStateNow q11_1_0) 35) (Ow.emp))) hS ?_ ?_
 ·
  clear hS
  intro k6 hS
  refine Zr ?_
  refine Zm ?_
  refine Zu (q_erne Tryz.underlying45 rfl) ?_
  refine Zm ?_
  refine Zspn 21 hS (fun h21 hS => ?_) (fun h21 hS => ?_)
  ·
   refine Zy ?_
   refine VL.mt true [0, 1, 5, 7, 24] (fun _ _ h => h) hS rfl
  refine Zg ?_
  refine Zh (q_erne Tryz.underlying45 rfl) ?_
  refine Zf ?_
  refine VL.mt (!decide (q16_3_1.pl.isNil = true)) [0, 1, 5, 7, 24] (fun _ _ h => h) hS rfl
 clear hS
 rintro x24_5 hS
 refine Zcb hS (fun h24 hS => ?_) (fun h24 hS => ?_)
 ·
  refine Zq ?_
  cases hS
 refine Zk ?_
 refine Zq (Zr ?_)
 refine Zu (q_fes gagg35 rfl rfl) ?_
 refine Zu (q_fes gagg35 rfl rfl) ?_
 obtain ⟨y30_7, ey30_7, hS⟩ := bd_s hS
 refine Zu (q_call (state_sameNow_ct q11_1_0 q16_3_0 ey30_7) rfl (fun _ _ => rfl)) ?_
 refine Zy ?_
 cases hS
 exact Ze
theorem slices_EqualFunc_string_string_string_string_ct (s1_0 : Sv Str) (s2_1 : Sv Str) {r : Bool} (hS : Sh.slices_EqualFunc_string_string_string_string s1_0.l s2_1.l = some r) :
 Ct Tryz.prog 21 [s1_0.val, s2_1.val, .func (.func 22) #[] #[]] (s1_0.ok.and s2_1.ok) (Ow.emp) (X := Unit) (fun _ => .bool r) (fun _ => True) (fun _ => Mo.tt) (fun _ => Ow.emp) := by
 refine Zo Tryz.func21 Tryz.ntmps21 fun c => ?_
 unfold Sh.slices_EqualFunc_string_string_string_string at hS
 refine Zq (Zr ?_)
 refine Zy ?_
 refine Zq (Zq (Zr ?_))
 refine Zm ?_
 refine Zu (q_ln (s := s1_0) Tryz.underlying37 rfl) ?_
 refine Zm ?_
 refine Zu (q_ln (s := s2_1) Tryz.underlying37 rfl) ?_
 refine Zu (q_neq rfl rfl) ?_
 refine Zl ?_
 refine Zcn hS (fun h14 hS => ?_) (fun h14 hS => ?_)
 ·
  refine Zq (Zr ?_)
  refine Zy ?_
  cases hS
  exact Ze
 refine Zk ?_
 refine Zq (Zq (Zr ?_))
 refine Zm ?_
 refine Zu (q_ln (s := s1_0) Tryz.underlying37 rfl) ?_
 refine Zy ?_
 refine VC.keep (ρ' := [(1, s2_1.val), (2, .func (.func 22) #[] #[]), (15, s1_0.val), (16, i64 (s1_0.l.length : Int)), (17, i64 0)]) [1, 2, 15, 16, 17] rfl ?_
 refine Zb ?_
 refine VC.iter (S := Int) (fun (x17_1 : Int) => x17_1) (fun (x17_1 : Int) => [(1, s2_1.val), (2, .func (.func 22) #[] #[]), (15, s1_0.val), (16, i64 (s1_0.l.length : Int)), (17, i64 x17_1)]) (fun (x17_1 : Int) => Mo.tt) (fun (x17_1 : Int) => Ow.emp) 0 [1, 2, 15, 16, 17] hS rfl ?_
 clear hS
 rintro x17_1 m1 y1 hS hK1
 refine Zq (Zr ?_)
 refine Zu (q_lss rfl rfl) ?_
 refine Zl ?_
 refine Zq ?_
 refine Zc hS (fun h18 hS => ?_) (fun h18 hS => ?_)
 ·
  refine Zk ?_
  refine Zq (Zb (Zq (Zr ?_)))
  refine Zm ?_
  obtain ⟨z20_2, nz20_2, hz20_2, hS⟩ := at_s hS
  refine Zu (q_ixm (s := s1_0) Tryz.underlying37 gsz9 rfl rfl nz20_2 (lt_of_get nz20_2 hz20_2)) ?_
  refine Zu (q_el (s := s1_0) gone9 rfl hz20_2 rfl) ?_
  refine Zy ?_
  refine Zq (Zr ?_)
  refine Zy ?_
  obtain ⟨z24_3, nz24_3, hz24_3, hS⟩ := at_s hS
  refine Zu (q_ixm (s := s2_1) Tryz.underlying37 gsz9 rfl rfl nz24_3 (lt_of_get nz24_3 hz24_3)) ?_
  refine Zu (q_el (s := s2_1) gone9 rfl hz24_3 rfl) ?_
  refine Zy ?_
  refine VC.keep (ρ' := [(1, s2_1.val), (2, .func (.func 22) #[] #[]), (15, s1_0.val), (16, i64 (s1_0.l.length : Int)), (17, i64 x17_1), (8, str z20_2), (9, str z24_3)]) [1, 2, 15, 16, 17, 8, 9] rfl ?_
  refine Zq (Zr ?_)
  refine Zy ?_
  obtain ⟨y29_4, ey29_4, hS⟩ := bd_s hS
  refine Zu (q_callV (state_sameMark_ct z20_2 z24_3 ey29_4) rfl rfl (fun _ _ => rfl)) ?_
  refine Zu (q_not rfl) ?_
  refine Zl ?_
  refine Zcb hS (fun h30 hS => ?_) (fun h30 hS => ?_)
  ·
   refine Zq (Zr ?_)
   refine Zy ?_
   refine VC.keep (ρ' := [(6, .bool false)]) [6] rfl ?_
   replace hS := up2 hS hK1
   cases hS
   exact Ze
  refine Zk ?_
  refine VC.keep (ρ' := [(1, s2_1.val), (2, .func (.func 22) #[] #[]), (15, s1_0.val), (16, i64 (s1_0.l.length : Int)), (17, i64 x17_1)]) [1, 2, 15, 16, 17] rfl ?_
  refine Zr ?_
  obtain ⟨b31, hS⟩ := gd_s hS
  refine Zu (q_add rfl rfl b31) ?_
  refine Zm ?_
  refine VL.rnd (x17_1 + 1) [1, 2, 15, 16, 17] (fun _ _ h => h) (go2 hS hK1) rfl
 replace hS := up2 hS hK1
 refine Zx ?_
 refine Zq (Zr ?_)
 refine Zy ?_
 cases hS
 exact Ze
theorem state_Same_ct (a_0 : StateState) (b_1 : StateState) {r : Bool} (hS : Sh.state_Same a_0.pl b_1.pl = some r) :
 Ct Tryz.prog 11 [.agg (zStateState a_0).toArray, .agg (zStateState b_1).toArray] (a_0.now_work.ok.and (a_0.now_index.ok.and (a_0.now_refs.ok.and (a_0.now_seq_doing.ok.and (a_0.now_seq_todo.ok.and (a_0.now_seq_index.ok.and (a_0.now_seq_work.ok.and (a_0.now_stash.ok.and (a_0.commits.ok.and (a_0.log_back.ok.and (a_0.log_forth.ok.and (b_1.now_work.ok.and (b_1.now_index.ok.and (b_1.now_refs.ok.and (b_1.now_seq_doing.ok.and (b_1.now_seq_todo.ok.and (b_1.now_seq_index.ok.and (b_1.now_seq_work.ok.and (b_1.now_stash.ok.and (b_1.commits.ok.and (b_1.log_back.ok.and b_1.log_forth.ok))))))))))))))))))))) (Ow.emp) (X := Unit) (fun _ => .bool r) (fun _ => True) (fun _ => Mo.tt) (fun _ => Ow.emp) := by
 refine Zo Tryz.func11 Tryz.ntmps11 fun c => ?_
 unfold Sh.state_Same at hS
 refine Zq (Zr ?_)
 refine VL.box (cs := (zStateState a_0)) rfl rfl (by decide) fun b2_1 => ?_
 refine VL.box (cs := (zStateState b_1)) rfl rfl (by decide) fun b3_2 => ?_
 refine Zy ?_
 refine Zq (Zr ?_)
 refine Zu (q_field gfa41_0 rfl) ?_
 refine Zu (q_fep (j := 0) (n := 17) gagg35 rfl rfl rfl) ?_
 refine Zu (q_field gfa41_0 rfl) ?_
 refine Zu (q_fep (j := 0) (n := 17) gagg35 rfl rfl rfl) ?_
 obtain ⟨y9_3, ey9_3, hS⟩ := bd_s hS
 refine Zu (q_call (state_sameNow_ct (⟨a_0.now_work, a_0.now_index, a_0.now_refs, a_0.now_head_branch, a_0.now_head_commit, a_0.now_seq_kind, a_0.now_seq_other, a_0.now_seq_text, a_0.now_seq_doing, a_0.now_seq_todo, a_0.now_seq_made, a_0.now_seq_branch, a_0.now_seq_head_branch, a_0.now_seq_head_commit, a_0.now_seq_index, a_0.now_seq_work, a_0.now_stash⟩ : StateNow) (⟨b_1.now_work, b_1.now_index, b_1.now_refs, b_1.now_head_branch, b_1.now_head_commit, b_1.now_seq_kind, b_1.now_seq_other, b_1.now_seq_text, b_1.now_seq_doing, b_1.now_seq_todo, b_1.now_seq_made, b_1.now_seq_branch, b_1.now_seq_head_branch, b_1.now_seq_head_commit, b_1.now_seq_index, b_1.now_seq_work, b_1.now_stash⟩ : StateNow) ey9_3) rfl (fun _ _ => rfl)) ?_
 refine Zm ?_
 refine Zspb 10 hS (fun h10 hS => ?_) (fun h10 hS => ?_)
 ·
  refine Zh (q_field gfa41_1 rfl) ?_
  refine Zh (q_fe gone36 rfl rfl) ?_
  refine Zh (q_field gfa41_1 rfl) ?_
  refine Zh (q_fe gone36 rfl rfl) ?_
  obtain ⟨y15_4, ey15_4, hS⟩ := bd_s hS
  refine Zh (q_call (slices_EqualFunc_state_Commit_state_Commit_state_Commit_state_Commit_ct a_0.commits b_1.commits ey15_4) rfl (fun _ _ => rfl)) ?_
  refine Zy ?_
  refine Zspb 17 hS (fun h17 hS => ?_) (fun h17 hS => ?_)
  ·
   refine Zh (q_field gfa41_3 rfl) ?_
   refine Zh (q_fe gone3 rfl rfl) ?_
   refine Zh (q_field gfa41_3 rfl) ?_
   refine Zh (q_fe gone3 rfl rfl) ?_
   refine Zh (q_eql rfl rfl) ?_
   refine Zy ?_
   refine Zsp 24 hS (fun h24 hS => ?_) (fun h24 hS => ?_)
   ·
    refine Zh (q_field gfa41_2 rfl) ?_
    refine Zh (q_field gfa39_0 rfl) ?_
    refine Zh (q_fe gone37 rfl rfl) ?_
    refine Zh (q_field gfa41_2 rfl) ?_
    refine Zh (q_field gfa39_0 rfl) ?_
    refine Zh (q_fe gone37 rfl rfl) ?_
    obtain ⟨y31_5, ey31_5, hS⟩ := bd_s hS
    refine Zh (q_call (slices_EqualFunc_string_string_string_string_ct a_0.log_back b_1.log_back ey31_5) rfl (fun _ _ => rfl)) ?_
    refine Zy ?_
    refine Zspb 33 hS (fun h33 hS => ?_) (fun h33 hS => ?_)
    ·
     refine Zh (q_field gfa41_2 rfl) ?_
     refine Zh (q_field gfa39_1 rfl) ?_
     refine Zh (q_fe gone37 rfl rfl) ?_
     refine Zh (q_field gfa41_2 rfl) ?_
     refine Zh (q_field gfa39_1 rfl) ?_
     refine Zh (q_fe gone37 rfl rfl) ?_
     obtain ⟨y40_6, ey40_6, hS⟩ := bd_s hS
     refine Zh (q_call (slices_EqualFunc_string_string_string_string_ct a_0.log_forth b_1.log_forth ey40_6) rfl (fun _ _ => rfl)) ?_
     refine Zy ?_
     refine VC.keep (ρ' := [(4, .bool y40_6)]) [4] rfl ?_
     cases hS
     exact Ze
    refine VL.skips 7 [40] (by kernel_rfl) ?_
    refine Zy ?_
    refine VC.keep (ρ' := [(4, .bool false)]) [4] rfl ?_
    cases hS
    exact Ze
   refine VL.skips 7 [31] (by kernel_rfl) ?_
   refine Zf ?_
   refine Zm ?_
   refine VL.skips 7 [40] (by kernel_rfl) ?_
   refine Zy ?_
   refine VC.keep (ρ' := [(4, .bool false)]) [4] rfl ?_
   cases hS
   exact Ze
  refine VL.skips 5 [22] (by kernel_rfl) ?_
  refine Zf ?_
  refine Zm ?_
  refine VL.skips 7 [31] (by kernel_rfl) ?_
  refine Zf ?_
  refine Zm ?_
  refine VL.skips 7 [40] (by kernel_rfl) ?_
  refine Zy ?_
  refine VC.keep (ρ' := [(4, .bool false)]) [4] rfl ?_
  cases hS
  exact Ze
 refine VL.skips 5 [15] (by kernel_rfl) ?_
 refine Zf ?_
 refine Zm ?_
 refine VL.skips 5 [22] (by kernel_rfl) ?_
 refine Zf ?_
 refine Zm ?_
 refine VL.skips 7 [31] (by kernel_rfl) ?_
 refine Zf ?_
 refine Zm ?_
 refine VL.skips 7 [40] (by kernel_rfl) ?_
 refine Zy ?_
 refine VC.keep (ρ' := [(4, .bool false)]) [4] rfl ?_
 cases hS
 exact Ze
theorem rectotop_TopForward_ct (n_0 : Int) {r : Bool} (hS : Sh.rectotop_TopForward n_0 = some r) :
 Ct Tryz.prog 3 [.int .u8 n_0] Mo.tt (Ow.emp) (X := Unit) (fun _ => .bool r) (fun _ => True) (fun _ => Mo.tt) (fun _ => Ow.emp) := by
 refine Zo Tryz.func3 Tryz.ntmps3 fun c => ?_
 unfold Sh.rectotop_TopForward at hS
 refine Zq (Zr ?_)
 refine Zy ?_
 refine Zq (Zq (Zr ?_))
 obtain ⟨y10_1, ey10_1, hS⟩ := bd_s hS
 refine Zu (q_call (rectotop_known_ct ey10_1) rfl (fun _ _ => rfl)) ?_
 refine Zu (q_not rfl) ?_
 refine Zl ?_
 refine Zcb hS (fun h11 hS => ?_) (fun h11 hS => ?_)
 ·
  refine Zq ?_
  cases hS
 refine Zk ?_
 refine Zq (Zr ?_)
 obtain ⟨y12_2, ey12_2, hS⟩ := bd_s hS
 refine VL.callF (state_New_ct ey12_2) rfl (by decide) ?_
 rintro q12_2_0 rfl
 try dsimp only
 obtain ⟨y13_3, ey13_3, hS⟩ := bd_s hS
 refine VL.callF (rectotop_saved_ct q12_2_0 [102] [48] [98, 97, 115, 101] ey13_3) rfl (by decide) ?_
 rintro q13_3_0 rfl
 try dsimp only
 refine VL.alloc (cs := [.slice none 0 0, .slice none 0 0, .slice none 0 0, str [], i64 0, str [], i64 0, str [], .slice none 0 0, .slice none 0 0, i64 0, str [], str [], i64 0, .slice none 0 0, .slice none 0 0, .slice none 0 0, .slice none 0 0, .slice none 0 0, .slice none 0 0, i64 0]) (by kernel_rfl) (by decide) fun b3_4 => ?_
 refine Zv (vc := (zStateState q13_3_0)) (cs' := (zStateState q13_3_0)) rfl gsz41 ?_
 refine Zl ?_
 refine Zq (Zr ?_)
 refine Zu (q_fes gagg41 rfl rfl) ?_
 obtain ⟨y16_5, ey16_5, hS⟩ := bd_s hS
 refine VL.callF (rectotop_say_ct q13_3_0 [98, 114, 97, 110, 99, 104, 32, 100, 101, 118] ey16_5) rfl (by decide) ?_
 rintro ⟨q16_5_0, q16_5_1⟩ rfl
 try dsimp only
 refine Zm ?_
 refine Zu (q_extract rfl rfl) ?_
 refine Zu (q_extract rfl rfl) ?_
 refine Zv (vc := (zStateState q16_5_0)) (cs' := (zStateState q16_5_0)) rfl gsz41 ?_
 refine Zl ?_
 refine VC.keep (ρ' := [(0, .int .u8 n_0), (3, ptr b3_4 0)]) [0, 3] rfl ?_
 refine Zq (Zr ?_)
 refine Zu (q_fes gagg41 rfl rfl) ?_
 obtain ⟨y21_6, ey21_6, hS⟩ := bd_s hS
 refine VL.callF (rectotop_say_ct q16_5_0 [115, 119, 105, 116, 99, 104, 32, 100, 101, 118] ey21_6) rfl (by decide) ?_
 rintro ⟨q21_6_0, q21_6_1⟩ rfl
 try dsimp only
 refine Zm ?_
 refine Zu (q_extract rfl rfl) ?_
 refine Zu (q_extract rfl rfl) ?_
 refine Zv (vc := (zStateState q21_6_0)) (cs' := (zStateState q21_6_0)) rfl gsz41 ?_
 refine Zl ?_
 refine Zq (Zr ?_)
 refine Zm ?_
 obtain ⟨b25, hS⟩ := gd_s hS
 refine Zu (q_rem rfl rfl b25) ?_
 refine Zu (q_convW Tryz.underlying5 Tryz.underlying3 rfl) ?_
 refine Zy ?_
 refine VC.keep (ρ' := [(3, ptr b3_4 0), (4, i64 (IntKind.wrap .i64 (n_0 % 6)))]) [3, 4] rfl ?_
 refine Zq (Zq (Zr ?_))
 refine Zy ?_
 refine Zb ?_
 refine VC.iter (S := Int × Sv FilesFile × Sv IndexEntry × Sv NamesRef × Str × Int × Str × Int × Str × Sv TodoStep × Sv TodoStep × Int × Str × Str × Int × Sv IndexEntry × Sv FilesFile × Sv ShelfShelf × Sv StateCommit × Sv Str × Sv Str × Int) (fun sg => (sg.1, sg.2.1.l, sg.2.2.1.l, sg.2.2.2.1.l, sg.2.2.2.2.1, sg.2.2.2.2.2.1, sg.2.2.2.2.2.2.1, sg.2.2.2.2.2.2.2.1, sg.2.2.2.2.2.2.2.2.1, sg.2.2.2.2.2.2.2.2.2.1.l, sg.2.2.2.2.2.2.2.2.2.2.1.l, sg.2.2.2.2.2.2.2.2.2.2.2.1, sg.2.2.2.2.2.2.2.2.2.2.2.2.1, sg.2.2.2.2.2.2.2.2.2.2.2.2.2.1, sg.2.2.2.2.2.2.2.2.2.2.2.2.2.2.1, sg.2.2.2.2.2.2.2.2.2.2.2.2.2.2.2.1.l, sg.2.2.2.2.2.2.2.2.2.2.2.2.2.2.2.2.1.l, (sg.2.2.2.2.2.2.2.2.2.2.2.2.2.2.2.2.2.1.l.map ShelfShelf.pl), (sg.2.2.2.2.2.2.2.2.2.2.2.2.2.2.2.2.2.2.1.l.map StateCommit.pl), sg.2.2.2.2.2.2.2.2.2.2.2.2.2.2.2.2.2.2.2.1.l, sg.2.2.2.2.2.2.2.2.2.2.2.2.2.2.2.2.2.2.2.2.1.l, sg.2.2.2.2.2.2.2.2.2.2.2.2.2.2.2.2.2.2.2.2.2)) (fun sg => [(3, ptr b3_4 0), (4, i64 (IntKind.wrap .i64 (n_0 % 6))), (5, i64 sg.1)]) (fun sg => (sg.2.1.ok.and (sg.2.2.1.ok.and (sg.2.2.2.1.ok.and (sg.2.2.2.2.2.2.2.2.2.1.ok.and (sg.2.2.2.2.2.2.2.2.2.2.1.ok.and (sg.2.2.2.2.2.2.2.2.2.2.2.2.2.2.2.1.ok.and (sg.2.2.2.2.2.2.2.2.2.2.2.2.2.2.2.2.1.ok.and (sg.2.2.2.2.2.2.2.2.2.2.2.2.2.2.2.2.2.1.ok.and (sg.2.2.2.2.2.2.2.2.2.2.2.2.2.2.2.2.2.2.1.ok.and (sg.2.2.2.2.2.2.2.2.2.2.2.2.2.2.2.2.2.2.2.1.ok.and sg.2.2.2.2.2.2.2.2.2.2.2.2.2.2.2.2.2.2.2.2.1.ok))))))))))) (fun sg => Ow.star (Blk b3_4 [sg.2.1.val, sg.2.2.1.val, sg.2.2.2.1.val, str sg.2.2.2.2.1, i64 sg.2.2.2.2.2.1, str sg.2.2.2.2.2.2.1, i64 sg.2.2.2.2.2.2.2.1, str sg.2.2.2.2.2.2.2.2.1, sg.2.2.2.2.2.2.2.2.2.1.val, sg.2.2.2.2.2.2.2.2.2.2.1.val, i64 sg.2.2.2.2.2.2.2.2.2.2.2.1, str sg.2.2.2.2.2.2.2.2.2.2.2.2.1, str sg.2.2.2.2.2.2.2.2.2.2.2.2.2.1, i64 sg.2.2.2.2.2.2.2.2.2.2.2.2.2.2.1, sg.2.2.2.2.2.2.2.2.2.2.2.2.2.2.2.1.val, sg.2.2.2.2.2.2.2.2.2.2.2.2.2.2.2.2.1.val, sg.2.2.2.2.2.2.2.2.2.2.2.2.2.2.2.2.2.1.val, sg.2.2.2.2.2.2.2.2.2.2.2.2.2.2.2.2.2.2.1.val, sg.2.2.2.2.2.2.2.2.2.2.2.2.2.2.2.2.2.2.2.1.val, sg.2.2.2.2.2.2.2.2.2.2.2.2.2.2.2.2.2.2.2.2.1.val, i64 sg.2.2.2.2.2.2.2.2.2.2.2.2.2.2.2.2.2.2.2.2.2] 41) (Ow.emp)) (1, q21_6_0.now_work, q21_6_0.now_index, q21_6_0.now_refs, q21_6_0.now_head_branch, q21_6_0.now_head_commit, q21_6_0.now_seq_kind, q21_6_0.now_seq_other, q21_6_0.now_seq_text, q21_6_0.now_seq_doing, q21_6_0.now_seq_todo, q21_6_0.now_seq_made, q21_6_0.now_seq_branch, q21_6_0.now_seq_head_branch, q21_6_0.now_seq_head_commit, q21_6_0.now_seq_index, q21_6_0.now_seq_work, q21_6_0.now_stash, q21_6_0.commits, q21_6_0.log_back, q21_6_0.log_forth, q21_6_0.time) [3, 4, 5] hS rfl ?_
 clear hS
 rintro ⟨i5_7, c0_8, c1_9, c2_10, c3_11, c4_12, c5_13, c6_14, c7_15, c8_16, c9_17, c10_18, c11_19, c12_20, c13_21, c14_22, c15_23, c16_24, c17_25, c18_26, c19_27, c20_28⟩ m1 y1 hS hK1
 refine Zq (Zq (Zr ?_))
 refine Zy ?_
 refine Zu (q_leq rfl rfl) ?_
 refine Zl ?_
 refine Zc hS (fun h29 hS => ?_) (fun h29 hS => ?_)
 ·
  refine Zk ?_
  refine Zq (Zb ?_)
  refine VC.draw [(0, true), (1, true), (2, true), (3, true), (4, false), (5, false)] mixed (by kernel_rfl) (by kernel_rfl) (by kernel_rfl) ?_
  refine Zw rfl (q_fes gagg41 rfl rfl) ?_
  refine Zw rfl (q_move rfl) ?_
  obtain ⟨b34, hS⟩ := gd_s hS
  refine Zw rfl (q_conv Tryz.underlying3 Tryz.underlying5 rfl (wu8_in b34)) ?_
  obtain ⟨y35_29, ey35_29, hS⟩ := bd_s hS
  refine Zw rfl (q_call (rectotop_word_ct i5_7 ey35_29) rfl (fun _ _ => rfl)) ?_
  refine VD.one rfl ?_
  obtain ⟨y36_30, ey36_30, hS⟩ := bd_s hS
  refine VL.callF (rectotop_saved_ct (⟨c0_8, c1_9, c2_10, c3_11, c4_12, c5_13, c6_14, c7_15, c8_16, c9_17, c10_18, c11_19, c12_20, c13_21, c14_22, c15_23, c16_24, c17_25, c18_26, c19_27, c20_28⟩ : StateState) [102] y35_29 [109, 111, 114, 101] ey36_30) rfl (by decide) ?_
  rintro q36_30_0 rfl
  try dsimp only
  refine VL.back (D' := []) (by kernel_rfl) (Pend.nil) ?_
  refine VD.one rfl ?_
  refine Zv (vc := (zStateState q36_30_0)) (cs' := (zStateState q36_30_0)) rfl gsz41 ?_
  refine VL.back (D' := []) (by kernel_rfl) (Pend.nil) ?_
  refine VD.to (fun _ _ h => h) ?_
  refine VC.keep (ρ' := [(3, ptr b3_4 0), (4, i64 (IntKind.wrap .i64 (n_0 % 6))), (5, i64 i5_7)]) [3, 4, 5] rfl ?_
  refine Zr ?_
  refine Zm ?_
  obtain ⟨b31, hS⟩ := gd_s hS
  refine Zu (q_add rfl rfl b31) ?_
  refine Za ?_
  refine VL.rnd ((i5_7 + 1), q36_30_0.now_work, q36_30_0.now_index, q36_30_0.now_refs, q36_30_0.now_head_branch, q36_30_0.now_head_commit, q36_30_0.now_seq_kind, q36_30_0.now_seq_other, q36_30_0.now_seq_text, q36_30_0.now_seq_doing, q36_30_0.now_seq_todo, q36_30_0.now_seq_made, q36_30_0.now_seq_branch, q36_30_0.now_seq_head_branch, q36_30_0.now_seq_head_commit, q36_30_0.now_seq_index, q36_30_0.now_seq_work, q36_30_0.now_stash, q36_30_0.commits, q36_30_0.log_back, q36_30_0.log_forth, q36_30_0.time) [3, 4, 5] (fun _ _ h => h) (go2 hS hK1) rfl
 replace hS := up2 hS hK1
 refine Zx ?_
 refine Zq (Zr ?_)
 refine Zu (q_fes gagg41 rfl rfl) ?_
 obtain ⟨y39_31, ey39_31, hS⟩ := bd_s hS
 refine VL.callF (rectotop_say_ct (⟨c0_8, c1_9, c2_10, c3_11, c4_12, c5_13, c6_14, c7_15, c8_16, c9_17, c10_18, c11_19, c12_20, c13_21, c14_22, c15_23, c16_24, c17_25, c18_26, c19_27, c20_28⟩ : StateState) [115, 119, 105, 116, 99, 104, 32, 109, 97, 105, 110] ey39_31) rfl (by decide) ?_
 rintro ⟨q39_31_0, q39_31_1⟩ rfl
 try dsimp only
 refine Zm ?_
 refine Zu (q_extract rfl rfl) ?_
 refine Zu (q_extract rfl rfl) ?_
 refine Zv (vc := (zStateState q39_31_0)) (cs' := (zStateState q39_31_0)) rfl gsz41 ?_
 refine Zl ?_
 refine VC.keep (ρ' := [(3, ptr b3_4 0), (4, i64 (IntKind.wrap .i64 (n_0 % 6)))]) [3, 4] rfl ?_
 refine Zq (Zr ?_)
 refine Zu (q_fes gagg41 rfl rfl) ?_
 obtain ⟨y44_32, ey44_32, hS⟩ := bd_s hS
 refine VL.callF (rectotop_say_ct q39_31_0 [109, 101, 114, 103, 101, 32, 100, 101, 118] ey44_32) rfl (by decide) ?_
 rintro ⟨q44_32_0, q44_32_1⟩ rfl
 try dsimp only
 refine Zm ?_
 refine Zu (q_extract rfl rfl) ?_
 refine Zu (q_extract rfl rfl) ?_
 refine VL.alloc (cs := [.slice none 0 0, .slice none 0 0, .slice none 0 0, str [], i64 0, str [], i64 0, str [], .slice none 0 0, .slice none 0 0, i64 0, str [], str [], i64 0, .slice none 0 0, .slice none 0 0, .slice none 0 0, .slice none 0 0, .slice none 0 0, .slice none 0 0, i64 0]) (by kernel_rfl) (by decide) fun b6_33 => ?_
 refine Zv (vc := (zStateState q44_32_0)) (cs' := (zStateState q44_32_0)) rfl gsz41 ?_
 refine Zy ?_
 refine Zq (Zq (Zr ?_))
 refine Zm ?_
 refine Zu (q_eql rfl rfl) ?_
 refine Zl ?_
 refine Zc hS (fun h48 hS => ?_) (fun h48 hS => ?_)
 ·
  refine Zq (Zr ?_)
  refine Zm ?_
  refine Zu (q_mkif Tryz.underlying50 (fun _ h => by cases h) rfl) ?_
  refine Zu (q_call (is_ct q44_32_1 10) rfl (fun _ _ => rfl)) ?_
  refine Zm ?_
  refine Zsp 52 hS (fun h52 hS => ?_) (fun h52 hS => ?_)
  ·
   refine Zh (q_fes gagg41 rfl rfl) ?_
   refine Zh (q_fes gagg41 rfl rfl) ?_
   obtain ⟨y55_34, ey55_34, hS⟩ := bd_s hS
   refine Zh (q_call (state_Same_ct q39_31_0 q44_32_0 ey55_34) rfl (fun _ _ => rfl)) ?_
   refine Zy ?_
   refine VC.keep (ρ' := [(2, .bool y55_34)]) [2] rfl ?_
   cases hS
   exact Ze
  refine VL.skips 3 [55] (by kernel_rfl) ?_
  refine Zy ?_
  refine VC.keep (ρ' := [(2, .bool false)]) [2] rfl ?_
  cases hS
  exact Ze
 refine Zk ?_
 refine VC.keep (ρ' := [(4, i64 (IntKind.wrap .i64 (n_0 % 6))), (6, ptr b6_33 0), (7, q44_32_1.val)]) [4, 6, 7] rfl ?_
 refine Zq (Zr ?_)
 refine Zu (q_fes gagg41 rfl rfl) ?_
 obtain ⟨y59_35, ey59_35, hS⟩ := bd_s hS
 refine VL.callF (rectotop_say_ct q44_32_0 [109, 101, 114, 103, 101, 32, 100, 101, 118] ey59_35) rfl (by decide) ?_
 rintro ⟨q59_35_0, q59_35_1⟩ rfl
 try dsimp only
 refine Zm ?_
 refine Zu (q_extract rfl rfl) ?_
 refine Zu (q_extract rfl rfl) ?_
 refine VL.alloc (cs := [.slice none 0 0, .slice none 0 0, .slice none 0 0, str [], i64 0, str [], i64 0, str [], .slice none 0 0, .slice none 0 0, i64 0, str [], str [], i64 0, .slice none 0 0, .slice none 0 0, .slice none 0 0, .slice none 0 0, .slice none 0 0, .slice none 0 0, i64 0]) (by kernel_rfl) (by decide) fun b8_36 => ?_
 refine Zv (vc := (zStateState q59_35_0)) (cs' := (zStateState q59_35_0)) rfl gsz41 ?_
 refine Zy ?_
 refine Zq (Zr ?_)
 refine Zm ?_
 refine Zu (q_ereq Tryz.underlying45 rfl) ?_
 refine Zm ?_
 refine Zsp 64 hS (fun h64 hS => ?_) (fun h64 hS => ?_)
 ·
  refine Zh (q_field gfa41_1 rfl) ?_
  refine Zh (q_fe gone36 rfl rfl) ?_
  refine Zh (q_lnm StateCommit.pl (s := q44_32_0.commits) Tryz.underlying36 rfl) ?_
  refine Zg ?_
  obtain ⟨b69, hS⟩ := gd_s hS
  refine Zh (q_add rfl rfl b69) ?_
  refine Zh (q_eql rfl rfl) ?_
  refine Zy ?_
  refine Zsp 72 hS (fun h72 hS => ?_) (fun h72 hS => ?_)
  ·
   refine Zh (q_field gfa41_0 rfl) ?_
   refine Zh (q_field gfa35_3 rfl) ?_
   refine Zh (q_field gfa28_0 rfl) ?_
   refine Zh (q_fe gone9 rfl rfl) ?_
   refine Zh (q_seq rfl rfl) ?_
   refine Zy ?_
   refine Zsp 79 hS (fun h79 hS => ?_) (fun h79 hS => ?_)
   ·
    refine Zh (q_field gfa41_0 rfl) ?_
    refine Zh (q_field gfa35_3 rfl) ?_
    refine Zh (q_field gfa28_1 rfl) ?_
    refine Zh (q_fe gone3 rfl rfl) ?_
    refine Zg ?_
    obtain ⟨b85, hS⟩ := gd_s hS
    refine Zh (q_add rfl rfl b85) ?_
    refine Zh (q_eql rfl rfl) ?_
    refine Zy ?_
    refine Zsp 88 hS (fun h88 hS => ?_) (fun h88 hS => ?_)
    ·
     refine Zh (q_fes gagg41 rfl rfl) ?_
     obtain ⟨y90_37, ey90_37, hS⟩ := bd_s hS
     refine Zh (q_call (rectotop_work_ct q44_32_0 [102] ey90_37) rfl (fun _ _ => rfl)) ?_
     refine Zg ?_
     obtain ⟨b92, hS⟩ := gd_s hS
     refine Zh (q_conv Tryz.underlying3 Tryz.underlying5 rfl (wu8_in b92)) ?_
     obtain ⟨y93_38, ey93_38, hS⟩ := bd_s hS
     refine Zh (q_call (rectotop_word_ct (IntKind.wrap .i64 (n_0 % 6)) ey93_38) rfl (fun _ _ => rfl)) ?_
     refine Zh (q_seq rfl rfl) ?_
     refine Zy ?_
     refine Zsp 96 hS (fun h96 hS => ?_) (fun h96 hS => ?_)
     ·
      refine Zg ?_
      refine Zh (q_mkif Tryz.underlying50 (fun _ h => by cases h) rfl) ?_
      refine Zh (q_call (is_ct q59_35_1 10) rfl (fun _ _ => rfl)) ?_
      refine Zy ?_
      refine VC.keep (ρ' := [(2, .bool (decide (endNo q59_35_1.pl = some 10)))]) [2] rfl ?_
      cases hS
      exact Ze
     refine VL.skips 3 [99] (by kernel_rfl) ?_
     refine Zy ?_
     refine VC.keep (ρ' := [(2, .bool false)]) [2] rfl ?_
     cases hS
     exact Ze
    refine VL.skips 6 [94] (by kernel_rfl) ?_
    refine Zf ?_
    refine Zm ?_
    refine VL.skips 3 [99] (by kernel_rfl) ?_
    refine Zy ?_
    refine VC.keep (ρ' := [(2, .bool false)]) [2] rfl ?_
    cases hS
    exact Ze
   refine VL.skips 7 [86] (by kernel_rfl) ?_
   refine Zf ?_
   refine Zm ?_
   refine VL.skips 6 [94] (by kernel_rfl) ?_
   refine Zf ?_
   refine Zm ?_
   refine VL.skips 3 [99] (by kernel_rfl) ?_
   refine Zy ?_
   refine VC.keep (ρ' := [(2, .bool false)]) [2] rfl ?_
   cases hS
   exact Ze
  refine VL.skips 5 [77] (by kernel_rfl) ?_
  refine Zf ?_
  refine Zm ?_
  refine VL.skips 7 [86] (by kernel_rfl) ?_
  refine Zf ?_
  refine Zm ?_
  refine VL.skips 6 [94] (by kernel_rfl) ?_
  refine Zf ?_
  refine Zm ?_
  refine VL.skips 3 [99] (by kernel_rfl) ?_
  refine Zy ?_
  refine VC.keep (ρ' := [(2, .bool false)]) [2] rfl ?_
  cases hS
  exact Ze
 refine VL.skips 6 [70] (by kernel_rfl) ?_
 refine Zf ?_
 refine Zm ?_
 refine VL.skips 5 [77] (by kernel_rfl) ?_
 refine Zf ?_
 refine Zm ?_
 refine VL.skips 7 [86] (by kernel_rfl) ?_
 refine Zf ?_
 refine Zm ?_
 refine VL.skips 6 [94] (by kernel_rfl) ?_
 refine Zf ?_
 refine Zm ?_
 refine VL.skips 3 [99] (by kernel_rfl) ?_
 refine Zy ?_
 refine VC.keep (ρ' := [(2, .bool false)]) [2] rfl ?_
 cases hS
 exact Ze
theorem rectotop_TopDirty_ct (a_0 : Int) (touched_1 : Bool) {r : Bool} (hS : Sh.rectotop_TopDirty a_0 touched_1 = some r) :
 Ct Tryz.prog 4 [.int .u8 a_0, .bool touched_1] Mo.tt (Ow.emp) (X := Unit) (fun _ => .bool r) (fun _ => True) (fun _ => Mo.tt) (fun _ => Ow.emp) := by
 refine Zo Tryz.func4 Tryz.ntmps4 fun c => ?_
 unfold Sh.rectotop_TopDirty at hS
 refine Zq (Zr ?_)
 refine Zy ?_
 refine Zq (Zq (Zr ?_))
 obtain ⟨y11_1, ey11_1, hS⟩ := bd_s hS
 refine Zu (q_call (rectotop_known_ct ey11_1) rfl (fun _ _ => rfl)) ?_
 refine Zu (q_not rfl) ?_
 refine Zl ?_
 refine Zcb hS (fun h12 hS => ?_) (fun h12 hS => ?_)
 ·
  refine Zq ?_
  cases hS
 refine Zk ?_
 refine Zq (Zr ?_)
 obtain ⟨y13_2, ey13_2, hS⟩ := bd_s hS
 refine VL.callF (state_New_ct ey13_2) rfl (by decide) ?_
 rintro q13_2_0 rfl
 try dsimp only
 obtain ⟨y14_3, ey14_3, hS⟩ := bd_s hS
 refine VL.callF (rectotop_saved_ct q13_2_0 [102] [48] [98, 97, 115, 101] ey14_3) rfl (by decide) ?_
 rintro q14_3_0 rfl
 try dsimp only
 refine VL.alloc (cs := [.slice none 0 0, .slice none 0 0, .slice none 0 0, str [], i64 0, str [], i64 0, str [], .slice none 0 0, .slice none 0 0, i64 0, str [], str [], i64 0, .slice none 0 0, .slice none 0 0, .slice none 0 0, .slice none 0 0, .slice none 0 0, .slice none 0 0, i64 0]) (by kernel_rfl) (by decide) fun b5_4 => ?_
 refine Zv (vc := (zStateState q14_3_0)) (cs' := (zStateState q14_3_0)) rfl gsz41 ?_
 refine Zl ?_
 refine Zq (Zr ?_)
 refine Zu (q_fes gagg41 rfl rfl) ?_
 obtain ⟨y16_5, ey16_5, hS⟩ := bd_s hS
 refine VL.callF (rectotop_saved_ct q14_3_0 [103] [48] [98, 97, 115, 101] ey16_5) rfl (by decide) ?_
 rintro q16_5_0 rfl
 try dsimp only
 refine Zv (vc := (zStateState q16_5_0)) (cs' := (zStateState q16_5_0)) rfl gsz41 ?_
 refine Zl ?_
 refine Zq (Zr ?_)
 refine Zu (q_fes gagg41 rfl rfl) ?_
 obtain ⟨y19_6, ey19_6, hS⟩ := bd_s hS
 refine VL.callF (rectotop_say_ct q16_5_0 [98, 114, 97, 110, 99, 104, 32, 100, 101, 118] ey19_6) rfl (by decide) ?_
 rintro ⟨q19_6_0, q19_6_1⟩ rfl
 try dsimp only
 refine Zm ?_
 refine Zu (q_extract rfl rfl) ?_
 refine Zu (q_extract rfl rfl) ?_
 refine Zv (vc := (zStateState q19_6_0)) (cs' := (zStateState q19_6_0)) rfl gsz41 ?_
 refine Zl ?_
 refine VC.keep (ρ' := [(0, .int .u8 a_0), (1, .bool touched_1), (5, ptr b5_4 0)]) [0, 1, 5] rfl ?_
 refine Zq (Zr ?_)
 refine Zu (q_fes gagg41 rfl rfl) ?_
 obtain ⟨y24_7, ey24_7, hS⟩ := bd_s hS
 refine VL.callF (rectotop_say_ct q19_6_0 [115, 119, 105, 116, 99, 104, 32, 100, 101, 118] ey24_7) rfl (by decide) ?_
 rintro ⟨q24_7_0, q24_7_1⟩ rfl
 try dsimp only
 refine Zm ?_
 refine Zu (q_extract rfl rfl) ?_
 refine Zu (q_extract rfl rfl) ?_
 refine Zv (vc := (zStateState q24_7_0)) (cs' := (zStateState q24_7_0)) rfl gsz41 ?_
 refine Zl ?_
 refine Zq (Zr ?_)
 refine Zy ?_
 refine VC.cutJ (S := Str) (fun (p6_8 : Str) => p6_8) (fun (p6_8 : Str) => [(0, .int .u8 a_0), (1, .bool touched_1), (5, ptr b5_4 0), (6, str p6_8)]) (fun (p6_8 : Str) => Mo.tt) (fun (p6_8 : Str) => Ow.star (Blk b5_4 (zStateState q24_7_0) 41) (Ow.emp)) hS ?_ ?_
 ·
  clear hS
  intro k9 hS
  refine Zq (Zr ?_)
  refine Zy ?_
  refine Zcb hS (fun h27 hS => ?_) (fun h27 hS => ?_)
  ·
   refine Zr ?_
   refine Za ?_
   refine VL.mt [102] [0, 1, 5, 6] (fun _ _ h => h) hS rfl
  refine VC.skip_mt [103] [0, 1, 5, 6] (fun _ _ h => h) hS rfl
 clear hS
 rintro p6_8 hS
 refine Zq (Zr ?_)
 refine Zu (q_fes gagg41 rfl rfl) ?_
 refine Zm ?_
 obtain ⟨y30_10, ey30_10, hS⟩ := bd_s hS
 refine VL.callF (rectotop_saved_ct q24_7_0 p6_8 [49] [100, 101, 118] ey30_10) rfl (by decide) ?_
 rintro q30_10_0 rfl
 try dsimp only
 refine Zv (vc := (zStateState q30_10_0)) (cs' := (zStateState q30_10_0)) rfl gsz41 ?_
 refine Zl ?_
 refine Zq (Zr ?_)
 refine Zu (q_fes gagg41 rfl rfl) ?_
 obtain ⟨y33_11, ey33_11, hS⟩ := bd_s hS
 refine VL.callF (rectotop_say_ct q30_10_0 [115, 119, 105, 116, 99, 104, 32, 109, 97, 105, 110] ey33_11) rfl (by decide) ?_
 rintro ⟨q33_11_0, q33_11_1⟩ rfl
 try dsimp only
 refine Zm ?_
 refine Zu (q_extract rfl rfl) ?_
 refine Zu (q_extract rfl rfl) ?_
 refine Zv (vc := (zStateState q33_11_0)) (cs' := (zStateState q33_11_0)) rfl gsz41 ?_
 refine Zl ?_
 refine VC.keep (ρ' := [(0, .int .u8 a_0), (1, .bool touched_1), (5, ptr b5_4 0)]) [0, 1, 5] rfl ?_
 refine Zq ?_
 refine VC.draw [(0, true), (1, true), (2, true), (3, true), (4, false), (5, false)] mixed (by kernel_rfl) (by kernel_rfl) (by kernel_rfl) ?_
 refine Zw rfl (q_fes gagg41 rfl rfl) ?_
 refine Zw rfl (q_move rfl) ?_
 obtain ⟨y38_12, ey38_12, hS⟩ := bd_s hS
 refine Zw rfl (q_call (rectotop_word_ct a_0 ey38_12) rfl (fun _ _ => rfl)) ?_
 obtain ⟨b39, hS⟩ := gd_s hS
 obtain ⟨y39_13, ey39_13, hS⟩ := lt_s hS
 refine Zw rfl (q_catE rfl rfl b39 ey39_13) ?_
 refine VD.one rfl ?_
 obtain ⟨y40_14, ey40_14, hS⟩ := bd_s hS
 refine VL.callF (rectotop_write_ct q33_11_0 [102] y39_13 ey40_14) rfl (by decide) ?_
 rintro q40_14_0 rfl
 try dsimp only
 refine VL.back (D' := []) (by kernel_rfl) (Pend.nil) ?_
 refine VD.one rfl ?_
 refine Zv (vc := (zStateState q40_14_0)) (cs' := (zStateState q40_14_0)) rfl gsz41 ?_
 refine VL.back (D' := []) (by kernel_rfl) (Pend.nil) ?_
 refine VD.to (fun _ _ h => h) ?_
 refine Zq (Zr ?_)
 refine Zu (q_fes gagg41 rfl rfl) ?_
 obtain ⟨y43_15, ey43_15, hS⟩ := bd_s hS
 refine VL.callF (rectotop_say_ct q40_14_0 [115, 119, 105, 116, 99, 104, 32, 100, 101, 118] ey43_15) rfl (by decide) ?_
 rintro ⟨q43_15_0, q43_15_1⟩ rfl
 try dsimp only
 refine Zm ?_
 refine Zu (q_extract rfl rfl) ?_
 refine Zu (q_extract rfl rfl) ?_
 refine VL.alloc (cs := [.slice none 0 0, .slice none 0 0, .slice none 0 0, str [], i64 0, str [], i64 0, str [], .slice none 0 0, .slice none 0 0, i64 0, str [], str [], i64 0, .slice none 0 0, .slice none 0 0, .slice none 0 0, .slice none 0 0, .slice none 0 0, .slice none 0 0, i64 0]) (by kernel_rfl) (by decide) fun b7_16 => ?_
 refine Zv (vc := (zStateState q43_15_0)) (cs' := (zStateState q43_15_0)) rfl gsz41 ?_
 refine Zy ?_
 refine VC.keep (ρ' := [(0, .int .u8 a_0), (1, .bool touched_1), (5, ptr b5_4 0), (7, ptr b7_16 0), (8, q43_15_1.val)]) [0, 1, 5, 7, 8] rfl ?_
 refine Zq (Zq (Zr ?_))
 refine Zy ?_
 refine Zcb hS (fun h46 hS => ?_) (fun h46 hS => ?_)
 ·
  refine Zq (Zr ?_)
  refine Zu (q_fes gagg41 rfl rfl) ?_
  obtain ⟨y49_17, ey49_17, hS⟩ := bd_s hS
  refine VL.callF (rectotop_say_ct q40_14_0 [115, 119, 105, 116, 99, 104, 32, 100, 101, 118, 32, 45, 102] ey49_17) rfl (by decide) ?_
  rintro ⟨q49_17_0, q49_17_1⟩ rfl
  try dsimp only
  refine Zm ?_
  refine Zu (q_extract rfl rfl) ?_
  refine Zu (q_extract rfl rfl) ?_
  refine VL.alloc (cs := [.slice none 0 0, .slice none 0 0, .slice none 0 0, str [], i64 0, str [], i64 0, str [], .slice none 0 0, .slice none 0 0, i64 0, str [], str [], i64 0, .slice none 0 0, .slice none 0 0, .slice none 0 0, .slice none 0 0, .slice none 0 0, .slice none 0 0, i64 0]) (by kernel_rfl) (by decide) fun b9_18 => ?_
  refine Zv (vc := (zStateState q49_17_0)) (cs' := (zStateState q49_17_0)) rfl gsz41 ?_
  refine Zy ?_
  refine VC.keep (ρ' := [(5, ptr b5_4 0), (7, ptr b7_16 0), (8, q43_15_1.val), (9, ptr b9_18 0), (10, q49_17_1.val)]) [5, 7, 8, 9, 10] rfl ?_
  refine Zq (Zr ?_)
  refine Zm ?_
  refine Zu (q_mkif Tryz.underlying50 (fun _ h => by cases h) rfl) ?_
  refine Zu (q_call (is_ct q43_15_1 8) rfl (fun _ _ => rfl)) ?_
  refine Zm ?_
  refine Zsp 55 hS (fun h55 hS => ?_) (fun h55 hS => ?_)
  ·
   refine Zh (q_fes gagg41 rfl rfl) ?_
   refine Zh (q_fes gagg41 rfl rfl) ?_
   obtain ⟨y58_19, ey58_19, hS⟩ := bd_s hS
   refine Zh (q_call (state_Same_ct q40_14_0 q43_15_0 ey58_19) rfl (fun _ _ => rfl)) ?_
   refine Zy ?_
   refine Zspb 60 hS (fun h60 hS => ?_) (fun h60 hS => ?_)
   ·
    refine Zg ?_
    refine Zh (q_ereq Tryz.underlying45 rfl) ?_
    refine Zy ?_
    refine Zsp 64 hS (fun h64 hS => ?_) (fun h64 hS => ?_)
    ·
     refine Zh (q_fes gagg41 rfl rfl) ?_
     obtain ⟨y66_20, ey66_20, hS⟩ := bd_s hS
     refine Zh (q_call (rectotop_work_ct q49_17_0 [102] ey66_20) rfl (fun _ _ => rfl)) ?_
     refine Zh (q_seq rfl rfl) ?_
     refine Zy ?_
     refine VC.keep (ρ' := [(4, .bool (decide (y66_20 = [49])))]) [4] rfl ?_
     cases hS
     exact Ze
    refine VL.skips 3 [67] (by kernel_rfl) ?_
    refine Zy ?_
    refine VC.keep (ρ' := [(4, .bool false)]) [4] rfl ?_
    cases hS
    exact Ze
   refine Zn ?_
   refine Zn ?_
   refine Zf ?_
   refine Zm ?_
   refine VL.skips 3 [67] (by kernel_rfl) ?_
   refine Zy ?_
   refine VC.keep (ρ' := [(4, .bool false)]) [4] rfl ?_
   cases hS
   exact Ze
  refine VL.skips 3 [58] (by kernel_rfl) ?_
  refine Zf ?_
  refine Zm ?_
  refine Zn ?_
  refine Zn ?_
  refine Zf ?_
  refine Zm ?_
  refine VL.skips 3 [67] (by kernel_rfl) ?_
  refine Zy ?_
  refine VC.keep (ρ' := [(4, .bool false)]) [4] rfl ?_
  cases hS
  exact Ze
 refine Zk ?_
 refine Zq (Zr ?_)
 refine Zm ?_
 refine Zu (q_ereq Tryz.underlying45 rfl) ?_
 refine Zm ?_
 refine Zsp 71 hS (fun h71 hS => ?_) (fun h71 hS => ?_)
 ·
  refine Zh (q_fes gagg41 rfl rfl) ?_
  obtain ⟨y73_21, ey73_21, hS⟩ := bd_s hS
  refine Zh (q_call (rectotop_work_ct q43_15_0 [102] ey73_21) rfl (fun _ _ => rfl)) ?_
  refine Zg ?_
  obtain ⟨y75_22, ey75_22, hS⟩ := bd_s hS
  refine Zh (q_call (rectotop_word_ct a_0 ey75_22) rfl (fun _ _ => rfl)) ?_
  obtain ⟨b76, hS⟩ := gd_s hS
  obtain ⟨y76_23, ey76_23, hS⟩ := lt_s hS
  refine Zh (q_catE rfl rfl b76 ey76_23) ?_
  refine Zh (q_seq rfl rfl) ?_
  refine Zy ?_
  refine Zsp 79 hS (fun h79 hS => ?_) (fun h79 hS => ?_)
  ·
   refine Zh (q_fes gagg41 rfl rfl) ?_
   obtain ⟨y81_24, ey81_24, hS⟩ := bd_s hS
   refine Zh (q_call (rectotop_work_ct q43_15_0 [103] ey81_24) rfl (fun _ _ => rfl)) ?_
   refine Zh (q_seq rfl rfl) ?_
   refine Zy ?_
   refine Zsp 84 hS (fun h84 hS => ?_) (fun h84 hS => ?_)
   ·
    refine Zh (q_field gfa41_0 rfl) ?_
    refine Zh (q_field gfa35_3 rfl) ?_
    refine Zh (q_field gfa28_0 rfl) ?_
    refine Zh (q_fe gone9 rfl rfl) ?_
    refine Zh (q_seq rfl rfl) ?_
    refine Zy ?_
    refine VC.keep (ρ' := [(4, .bool (decide (q43_15_0.now_head_branch = [100, 101, 118])))]) [4] rfl ?_
    cases hS
    exact Ze
   refine VL.skips 5 [89] (by kernel_rfl) ?_
   refine Zy ?_
   refine VC.keep (ρ' := [(4, .bool false)]) [4] rfl ?_
   cases hS
   exact Ze
  refine VL.skips 3 [82] (by kernel_rfl) ?_
  refine Zf ?_
  refine Zm ?_
  refine VL.skips 5 [89] (by kernel_rfl) ?_
  refine Zy ?_
  refine VC.keep (ρ' := [(4, .bool false)]) [4] rfl ?_
  cases hS
  exact Ze
 refine VL.skips 6 [77] (by kernel_rfl) ?_
 refine Zf ?_
 refine Zm ?_
 refine VL.skips 3 [82] (by kernel_rfl) ?_
 refine Zf ?_
 refine Zm ?_
 refine VL.skips 5 [89] (by kernel_rfl) ?_
 refine Zy ?_
 refine VC.keep (ρ' := [(4, .bool false)]) [4] rfl ?_
 cases hS
 exact Ze
end Go.Proofs.YtdfbpkpldjpioaaGreatDoor
end
