/- Part of the proofs of: the law StateBack: any state as bytes, and back; its graph, its trees, its weight (any parts) (second form: where what is read is of bulk at most 1048576) -/
import Derived.Test.YthbccdlpalenlaaGreatDoorQD
set_option linter.unusedVariables false
set_option linter.unusedSimpArgs false
set_option linter.unusedSectionVars false
section
set_option linter.unusedVariables false
namespace Go.Proofs.YthbccdlpalenlaaGreatDoor
set_option maxHeartbeats 4000000
set_option maxRecDepth 100000
set_option synthInstance.maxSize 2000
set_option synthInstance.maxHeartbeats 1000000
open Go.RowKit Go.V
open Go.S hiding Str
theorem slices_Equal_files_Row_files_File_ct (s1_0 : Sv FilesFile) (s2_1 : Sv FilesFile) {r : Bool} (hS : Sh.slices_Equal_files_Row_files_File s1_0.l s2_1.l = some r) :
 Ct Tryz.prog 205 [s1_0.val, s2_1.val] (s1_0.ok.and s2_1.ok) (Ow.emp) (X := Unit) (fun _ => .bool r) (fun _ => True) (fun _ => Mo.tt) (fun _ => Ow.emp) := by
 refine Zo Tryz.func205 Tryz.ntmps205 fun c => ?_
 unfold Sh.slices_Equal_files_Row_files_File at hS
 refine Zq (Zr ?_)
 refine Zy ?_
 refine Zq (Zq (Zr ?_))
 refine Zm ?_
 refine Zu (q_ln (s := s1_0) Tryz.underlying50 rfl) ?_
 refine Zm ?_
 refine Zu (q_ln (s := s2_1) Tryz.underlying50 rfl) ?_
 refine Zu (q_neq rfl rfl) ?_
 refine Zl ?_
 refine Zcn hS (fun h10 hS => ?_) (fun h10 hS => ?_)
 ·
  refine Zq (Zr ?_)
  refine Zy ?_
  cases hS
  exact Ze
 refine Zk ?_
 refine Zq (Zq (Zr ?_))
 refine Zm ?_
 refine Zu (q_ln (s := s1_0) Tryz.underlying50 rfl) ?_
 refine Zy ?_
 refine VC.keep (ρ' := [(0, s1_0.val), (1, s2_1.val), (12, i64 (s1_0.l.length : Int)), (13, i64 0)]) [0, 1, 12, 13] rfl ?_
 refine Zb ?_
 refine VC.iter (S := Int) (fun (x13_1 : Int) => x13_1) (fun (x13_1 : Int) => [(0, s1_0.val), (1, s2_1.val), (12, i64 (s1_0.l.length : Int)), (13, i64 x13_1)]) (fun (x13_1 : Int) => Mo.tt) (fun (x13_1 : Int) => Ow.emp) 0 [0, 1, 12, 13] hS rfl ?_
 clear hS
 rintro x13_1 m1 y1 hS hK1
 refine Zq (Zr ?_)
 refine Zu (q_lss rfl rfl) ?_
 refine Zl ?_
 refine Zq ?_
 refine Zc hS (fun h14 hS => ?_) (fun h14 hS => ?_)
 ·
  refine Zk ?_
  refine Zq (Zb (Zq (Zr ?_)))
  refine Zy ?_
  refine Zq ?_
  refine VC.draw ((List.range 9).map fun k => (k, true)) mixed (by kernel_rfl) (by kernel_rfl) (by kernel_rfl) ?_
  refine Zw rfl (q_move rfl) ?_
  refine Zw rfl (q_move rfl) ?_
  obtain ⟨z18_2, nz18_2, hz18_2, hS⟩ := at_s hS
  refine Zw rfl (q_ixm (s := s1_0) Tryz.underlying50 gsz185 rfl rfl nz18_2 (lt_of_get nz18_2 hz18_2)) ?_
  refine Zw rfl (q_els (s := s1_0) gagg185 rfl rfl hz18_2) ?_
  refine Zw rfl (q_move rfl) ?_
  refine Zw rfl (q_move rfl) ?_
  obtain ⟨z22_3, nz22_3, hz22_3, hS⟩ := at_s hS
  refine Zw rfl (q_ixm (s := s2_1) Tryz.underlying50 gsz185 rfl rfl nz22_3 (lt_of_get nz22_3 hz22_3)) ?_
  refine Zw rfl (q_els (s := s2_1) gagg185 rfl rfl hz22_3) ?_
  refine Zw rfl (q_stneq geqg185 (geqs185 z18_2.path z18_2.mode z18_2.data z22_3.path z22_3.mode z22_3.data) rfl rfl) ?_
  refine VD.to (fun _ _ h => h) ?_
  refine VC.keep (ρ' := [(0, s1_0.val), (1, s2_1.val), (12, i64 (s1_0.l.length : Int)), (13, i64 x13_1), (24, .bool (!decide (z18_2.path = z22_3.path ∧ z18_2.mode = z22_3.mode ∧ z18_2.data = z22_3.data)))]) [0, 1, 12, 13, 24] rfl ?_
  refine Zcn hS (fun h24 hS => ?_) (fun h24 hS => ?_)
  ·
   refine Zq (Zr ?_)
   refine Zy ?_
   replace hS := up2 hS hK1
   cases hS
   exact Ze
  refine Zk ?_
  refine Zr ?_
  obtain ⟨b25, hS⟩ := gd_s hS
  refine Zu (q_add rfl rfl b25) ?_
  refine Zm ?_
  refine VL.rnd (x13_1 + 1) [0, 1, 12, 13] (fun _ _ h => h) (go2 hS hK1) rfl
 replace hS := up2 hS hK1
 refine Zx ?_
 refine Zq (Zr ?_)
 refine Zy ?_
 cases hS
 exact Ze
theorem files_Row_Same_ct (r_0 : Sv FilesFile) (q_1 : Sv FilesFile) {r : Bool} (hS : Sh.files_Row_Same r_0.l q_1.l = some r) :
 Ct Tryz.prog 156 [r_0.val, q_1.val] (r_0.ok.and q_1.ok) (Ow.emp) (X := Unit) (fun _ => .bool r) (fun _ => True) (fun _ => Mo.tt) (fun _ => Ow.emp) := by
 refine Zo Tryz.func156 Tryz.ntmps156 fun c => ?_
 unfold Sh.files_Row_Same at hS
 refine Zq (Zr ?_)
 refine Zy ?_
 refine Zq (Zr ?_)
 refine Zy ?_
 obtain ⟨y7_1, ey7_1, hS⟩ := bd_s hS
 refine Zu (q_call (slices_Equal_files_Row_files_File_ct r_0 q_1 ey7_1) rfl (fun _ _ => rfl)) ?_
 refine Zy ?_
 cases hS
 exact Ze
theorem index_Same_1_ct (x_0 : IndexEntry) (y_1 : IndexEntry) {r : Bool} (hS : Sh.index_Same_1 x_0 y_1 = some r) :
 Ct Tryz.prog 207 [.agg #[str x_0.path, i64 x_0.stage, i64 x_0.mode, str x_0.data, i64 x_0.time, i64 x_0.size], .agg #[str y_1.path, i64 y_1.stage, i64 y_1.mode, str y_1.data, i64 y_1.time, i64 y_1.size]] Mo.tt (Ow.emp) (X := Unit) (fun _ => .bool r) (fun _ => True) (fun _ => Mo.tt) (fun _ => Ow.emp) := by
 refine Zo Tryz.func207 Tryz.ntmps207 fun c => ?_
 unfold Sh.index_Same_1 at hS
 refine Zq (Zr ?_)
 refine VL.box (cs := [str x_0.path, i64 x_0.stage, i64 x_0.mode, str x_0.data, i64 x_0.time, i64 x_0.size]) rfl rfl (by decide) fun b2_1 => ?_
 refine VL.box (cs := [str y_1.path, i64 y_1.stage, i64 y_1.mode, str y_1.data, i64 y_1.time, i64 y_1.size]) rfl rfl (by decide) fun b3_2 => ?_
 refine Zy ?_
 refine Zq (Zr ?_)
 refine Zu (q_field gfa218_0 rfl) ?_
 refine Zu (q_fe gone9 rfl rfl) ?_
 refine Zu (q_field gfa218_0 rfl) ?_
 refine Zu (q_fe gone9 rfl rfl) ?_
 refine Zy ?_
 refine Zsp 10 hS (fun h10 hS => ?_) (fun h10 hS => ?_)
 ·
  refine Zh (q_field gfa218_1 rfl) ?_
  refine Zh (q_fe gone3 rfl rfl) ?_
  refine Zh (q_field gfa218_1 rfl) ?_
  refine Zh (q_fe gone3 rfl rfl) ?_
  refine Zh (q_eql rfl rfl) ?_
  refine Zy ?_
  refine Zsp 17 hS (fun h17 hS => ?_) (fun h17 hS => ?_)
  ·
   refine Zh (q_field gfa218_2 rfl) ?_
   refine Zh (q_fe gone3 rfl rfl) ?_
   refine Zh (q_field gfa218_2 rfl) ?_
   refine Zh (q_fe gone3 rfl rfl) ?_
   refine Zh (q_eql rfl rfl) ?_
   refine Zy ?_
   refine Zsp 24 hS (fun h24 hS => ?_) (fun h24 hS => ?_)
   ·
    refine Zh (q_field gfa218_3 rfl) ?_
    refine Zh (q_fe gone9 rfl rfl) ?_
    refine Zh (q_field gfa218_3 rfl) ?_
    refine Zh (q_fe gone9 rfl rfl) ?_
    refine Zh (q_seq rfl rfl) ?_
    refine Zy ?_
    refine VC.keep (ρ' := [(4, .bool (decide (x_0.data = y_1.data)))]) [4] rfl ?_
    cases hS
    exact Ze
   refine VL.runs 7 [(4, some false)] (by kernel_rfl) ?_
   refine Zl ?_
   refine VC.keep (ρ' := [(4, .bool false)]) [4] rfl ?_
   cases hS
   exact Ze
  refine VL.runs 14 [(4, some false)] (by kernel_rfl) ?_
  refine Zl ?_
  refine VC.keep (ρ' := [(4, .bool false)]) [4] rfl ?_
  cases hS
  exact Ze
 refine VL.runs 21 [(4, some false)] (by kernel_rfl) ?_
 refine Zl ?_
 refine VC.keep (ρ' := [(4, .bool false)]) [4] rfl ?_
 cases hS
 exact Ze
theorem slices_EqualFunc_index_Entry_index_Entry_index_Entry_index_Entry_ct (s1_0 : Sv IndexEntry) (s2_1 : Sv IndexEntry) {r : Bool} (hS : Sh.slices_EqualFunc_index_Entry_index_Entry_index_Entry_index_Entry s1_0.l s2_1.l = some r) :
 Ct Tryz.prog 206 [s1_0.val, s2_1.val, .func (.func 207) #[] #[]] (s1_0.ok.and s2_1.ok) (Ow.emp) (X := Unit) (fun _ => .bool r) (fun _ => True) (fun _ => Mo.tt) (fun _ => Ow.emp) := by
 refine Zo Tryz.func206 Tryz.ntmps206 fun c => ?_
 unfold Sh.slices_EqualFunc_index_Entry_index_Entry_index_Entry_index_Entry at hS
 refine Zq (Zr ?_)
 refine Zy ?_
 refine Zq (Zq (Zr ?_))
 refine Zm ?_
 refine Zu (q_ln (s := s1_0) Tryz.underlying51 rfl) ?_
 refine Zm ?_
 refine Zu (q_ln (s := s2_1) Tryz.underlying51 rfl) ?_
 refine Zu (q_neq rfl rfl) ?_
 refine Zl ?_
 refine Zcn hS (fun h14 hS => ?_) (fun h14 hS => ?_)
 ·
  refine Zq (Zr ?_)
  refine Zy ?_
  cases hS
  exact Ze
 refine Zk ?_
 refine Zq (Zq (Zr ?_))
 refine Zm ?_
 refine Zu (q_ln (s := s1_0) Tryz.underlying51 rfl) ?_
 refine Zy ?_
 refine VC.keep (ρ' := [(1, s2_1.val), (2, .func (.func 207) #[] #[]), (15, s1_0.val), (16, i64 (s1_0.l.length : Int)), (17, i64 0)]) [1, 2, 15, 16, 17] rfl ?_
 refine Zb ?_
 refine VC.iter (S := Int) (fun (x17_1 : Int) => x17_1) (fun (x17_1 : Int) => [(1, s2_1.val), (2, .func (.func 207) #[] #[]), (15, s1_0.val), (16, i64 (s1_0.l.length : Int)), (17, i64 x17_1)]) (fun (x17_1 : Int) => Mo.tt) (fun (x17_1 : Int) => Ow.emp) 0 [1, 2, 15, 16, 17] hS rfl ?_
 clear hS
 rintro x17_1 m1 y1 hS hK1
 refine Zq (Zr ?_)
 refine Zu (q_lss rfl rfl) ?_
 refine Zl ?_
 refine Zq ?_
 refine Zc hS (fun h18 hS => ?_) (fun h18 hS => ?_)
 ·
  refine Zk ?_
  refine Zq (Zb (Zq (Zr ?_)))
  refine Zm ?_
  obtain ⟨z20_2, nz20_2, hz20_2, hS⟩ := at_s hS
  refine Zu (q_ixm (s := s1_0) Tryz.underlying51 gsz218 rfl rfl nz20_2 (lt_of_get nz20_2 hz20_2)) ?_
  refine Zu (q_els (s := s1_0) gagg218 rfl rfl hz20_2) ?_
  refine VL.alloc (cs := [str [], i64 0, i64 0, str [], i64 0, i64 0]) (by kernel_rfl) (by decide) fun b8_3 => ?_
  refine Za ?_
  refine Zv (vc := [str z20_2.path, i64 z20_2.stage, i64 z20_2.mode, str z20_2.data, i64 z20_2.time, i64 z20_2.size]) (cs' := [str z20_2.path, i64 z20_2.stage, i64 z20_2.mode, str z20_2.data, i64 z20_2.time, i64 z20_2.size]) rfl gsz218 ?_
  refine Zl ?_
  refine Zq (Zr ?_)
  refine Zy ?_
  obtain ⟨z24_4, nz24_4, hz24_4, hS⟩ := at_s hS
  refine Zu (q_ixm (s := s2_1) Tryz.underlying51 gsz218 rfl rfl nz24_4 (lt_of_get nz24_4 hz24_4)) ?_
  refine Zu (q_els (s := s2_1) gagg218 rfl rfl hz24_4) ?_
  refine VL.alloc (cs := [str [], i64 0, i64 0, str [], i64 0, i64 0]) (by kernel_rfl) (by decide) fun b9_5 => ?_
  refine Zv (vc := [str z24_4.path, i64 z24_4.stage, i64 z24_4.mode, str z24_4.data, i64 z24_4.time, i64 z24_4.size]) (cs' := [str z24_4.path, i64 z24_4.stage, i64 z24_4.mode, str z24_4.data, i64 z24_4.time, i64 z24_4.size]) rfl gsz218 ?_
  refine Zl ?_
  refine VC.keep (ρ' := [(1, s2_1.val), (2, .func (.func 207) #[] #[]), (15, s1_0.val), (16, i64 (s1_0.l.length : Int)), (17, i64 x17_1), (8, ptr b8_3 0), (9, ptr b9_5 0)]) [1, 2, 15, 16, 17, 8, 9] rfl ?_
  refine Zq (Zr ?_)
  refine Zm ?_
  refine Zu (q_fes gagg218 rfl rfl) ?_
  refine Zu (q_fes gagg218 rfl rfl) ?_
  obtain ⟨y29_6, ey29_6, hS⟩ := bd_s hS
  refine Zu (q_callV (index_Same_1_ct z20_2 z24_4 ey29_6) rfl rfl (fun _ _ => rfl)) ?_
  refine Zu (q_not rfl) ?_
  refine Zl ?_
  refine Zcb hS (fun h30 hS => ?_) (fun h30 hS => ?_)
  ·
   refine Zq (Zr ?_)
   refine Zy ?_
   refine VC.keep (ρ' := [(6, .bool false)]) [6] rfl ?_
   replace hS := up2 hS hK1
   cases hS
   exact Ze
  refine Zk ?_
  refine VC.keep (ρ' := [(1, s2_1.val), (2, .func (.func 207) #[] #[]), (15, s1_0.val), (16, i64 (s1_0.l.length : Int)), (17, i64 x17_1)]) [1, 2, 15, 16, 17] rfl ?_
  refine Zr ?_
  obtain ⟨b31, hS⟩ := gd_s hS
  refine Zu (q_add rfl rfl b31) ?_
  refine Zm ?_
  refine VL.rnd (x17_1 + 1) [1, 2, 15, 16, 17] (fun _ _ h => h) (go2 hS hK1) rfl
 replace hS := up2 hS hK1
 refine Zx ?_
 refine Zq (Zr ?_)
 refine Zy ?_
 cases hS
 exact Ze
theorem index_Same_ct (a_0 : Sv IndexEntry) (b_1 : Sv IndexEntry) {r : Bool} (hS : Sh.index_Same a_0.l b_1.l = some r) :
 Ct Tryz.prog 157 [a_0.val, b_1.val] (a_0.ok.and b_1.ok) (Ow.emp) (X := Unit) (fun _ => .bool r) (fun _ => True) (fun _ => Mo.tt) (fun _ => Ow.emp) := by
 refine Zo Tryz.func157 Tryz.ntmps157 fun c => ?_
 unfold Sh.index_Same at hS
 refine Zq (Zr ?_)
 refine Zy ?_
 refine Zq (Zr ?_)
 refine Zy ?_
 obtain ⟨y7_1, ey7_1, hS⟩ := bd_s hS
 refine Zu (q_call (slices_EqualFunc_index_Entry_index_Entry_index_Entry_index_Entry_ct a_0 b_1 ey7_1) rfl (fun _ _ => rfl)) ?_
 refine Zy ?_
 cases hS
 exact Ze
theorem slices_Equal_names_Ref_names_Ref_ct (s1_0 : Sv NamesRef) (s2_1 : Sv NamesRef) {r : Bool} (hS : Sh.slices_Equal_names_Ref_names_Ref s1_0.l s2_1.l = some r) :
 Ct Tryz.prog 158 [s1_0.val, s2_1.val] (s1_0.ok.and s2_1.ok) (Ow.emp) (X := Unit) (fun _ => .bool r) (fun _ => True) (fun _ => Mo.tt) (fun _ => Ow.emp) := by
 refine Zo Tryz.func158 Tryz.ntmps158 fun c => ?_
 unfold Sh.slices_Equal_names_Ref_names_Ref at hS
 refine Zq (Zr ?_)
 refine Zy ?_
 refine Zq (Zq (Zr ?_))
 refine Zm ?_
 refine Zu (q_ln (s := s1_0) Tryz.underlying52 rfl) ?_
 refine Zm ?_
 refine Zu (q_ln (s := s2_1) Tryz.underlying52 rfl) ?_
 refine Zu (q_neq rfl rfl) ?_
 refine Zl ?_
 refine Zcn hS (fun h10 hS => ?_) (fun h10 hS => ?_)
 ·
  refine Zq (Zr ?_)
  refine Zy ?_
  cases hS
  exact Ze
 refine Zk ?_
 refine Zq (Zq (Zr ?_))
 refine Zm ?_
 refine Zu (q_ln (s := s1_0) Tryz.underlying52 rfl) ?_
 refine Zy ?_
 refine VC.keep (ρ' := [(0, s1_0.val), (1, s2_1.val), (12, i64 (s1_0.l.length : Int)), (13, i64 0)]) [0, 1, 12, 13] rfl ?_
 refine Zb ?_
 refine VC.iter (S := Int) (fun (x13_1 : Int) => x13_1) (fun (x13_1 : Int) => [(0, s1_0.val), (1, s2_1.val), (12, i64 (s1_0.l.length : Int)), (13, i64 x13_1)]) (fun (x13_1 : Int) => Mo.tt) (fun (x13_1 : Int) => Ow.emp) 0 [0, 1, 12, 13] hS rfl ?_
 clear hS
 rintro x13_1 m1 y1 hS hK1
 refine Zq (Zr ?_)
 refine Zu (q_lss rfl rfl) ?_
 refine Zl ?_
 refine Zq ?_
 refine Zc hS (fun h14 hS => ?_) (fun h14 hS => ?_)
 ·
  refine Zk ?_
  refine Zq (Zb (Zq (Zr ?_)))
  refine Zy ?_
  refine Zq ?_
  refine VC.draw ((List.range 9).map fun k => (k, true)) mixed (by kernel_rfl) (by kernel_rfl) (by kernel_rfl) ?_
  refine Zw rfl (q_move rfl) ?_
  refine Zw rfl (q_move rfl) ?_
  obtain ⟨z18_2, nz18_2, hz18_2, hS⟩ := at_s hS
  refine Zw rfl (q_ixm (s := s1_0) Tryz.underlying52 gsz216 rfl rfl nz18_2 (lt_of_get nz18_2 hz18_2)) ?_
  refine Zw rfl (q_els (s := s1_0) gagg216 rfl rfl hz18_2) ?_
  refine Zw rfl (q_move rfl) ?_
  refine Zw rfl (q_move rfl) ?_
  obtain ⟨z22_3, nz22_3, hz22_3, hS⟩ := at_s hS
  refine Zw rfl (q_ixm (s := s2_1) Tryz.underlying52 gsz216 rfl rfl nz22_3 (lt_of_get nz22_3 hz22_3)) ?_
  refine Zw rfl (q_els (s := s2_1) gagg216 rfl rfl hz22_3) ?_
  refine Zw rfl (q_stneq geqg216 (geqs216 z18_2.name z18_2.commit z22_3.name z22_3.commit) rfl rfl) ?_
  refine VD.to (fun _ _ h => h) ?_
  refine VC.keep (ρ' := [(0, s1_0.val), (1, s2_1.val), (12, i64 (s1_0.l.length : Int)), (13, i64 x13_1), (24, .bool (!decide (z18_2.name = z22_3.name ∧ z18_2.commit = z22_3.commit)))]) [0, 1, 12, 13, 24] rfl ?_
  refine Zcn hS (fun h24 hS => ?_) (fun h24 hS => ?_)
  ·
   refine Zq (Zr ?_)
   refine Zy ?_
   replace hS := up2 hS hK1
   cases hS
   exact Ze
  refine Zk ?_
  refine Zr ?_
  obtain ⟨b25, hS⟩ := gd_s hS
  refine Zu (q_add rfl rfl b25) ?_
  refine Zm ?_
  refine VL.rnd (x13_1 + 1) [0, 1, 12, 13] (fun _ _ h => h) (go2 hS hK1) rfl
 replace hS := up2 hS hK1
 refine Zx ?_
 refine Zq (Zr ?_)
 refine Zy ?_
 cases hS
 exact Ze
theorem slices_Equal_todo_Step_todo_Step_ct (s1_0 : Sv TodoStep) (s2_1 : Sv TodoStep) {r : Bool} (hS : Sh.slices_Equal_todo_Step_todo_Step s1_0.l s2_1.l = some r) :
 Ct Tryz.prog 208 [s1_0.val, s2_1.val] (s1_0.ok.and s2_1.ok) (Ow.emp) (X := Unit) (fun _ => .bool r) (fun _ => True) (fun _ => Mo.tt) (fun _ => Ow.emp) := by
 refine Zo Tryz.func208 Tryz.ntmps208 fun c => ?_
 unfold Sh.slices_Equal_todo_Step_todo_Step at hS
 refine Zq (Zr ?_)
 refine Zy ?_
 refine Zq (Zq (Zr ?_))
 refine Zm ?_
 refine Zu (q_ln (s := s1_0) Tryz.underlying55 rfl) ?_
 refine Zm ?_
 refine Zu (q_ln (s := s2_1) Tryz.underlying55 rfl) ?_
 refine Zu (q_neq rfl rfl) ?_
 refine Zl ?_
 refine Zcn hS (fun h10 hS => ?_) (fun h10 hS => ?_)
 ·
  refine Zq (Zr ?_)
  refine Zy ?_
  cases hS
  exact Ze
 refine Zk ?_
 refine Zq (Zq (Zr ?_))
 refine Zm ?_
 refine Zu (q_ln (s := s1_0) Tryz.underlying55 rfl) ?_
 refine Zy ?_
 refine VC.keep (ρ' := [(0, s1_0.val), (1, s2_1.val), (12, i64 (s1_0.l.length : Int)), (13, i64 0)]) [0, 1, 12, 13] rfl ?_
 refine Zb ?_
 refine VC.iter (S := Int) (fun (x13_1 : Int) => x13_1) (fun (x13_1 : Int) => [(0, s1_0.val), (1, s2_1.val), (12, i64 (s1_0.l.length : Int)), (13, i64 x13_1)]) (fun (x13_1 : Int) => Mo.tt) (fun (x13_1 : Int) => Ow.emp) 0 [0, 1, 12, 13] hS rfl ?_
 clear hS
 rintro x13_1 m1 y1 hS hK1
 refine Zq (Zr ?_)
 refine Zu (q_lss rfl rfl) ?_
 refine Zl ?_
 refine Zq ?_
 refine Zc hS (fun h14 hS => ?_) (fun h14 hS => ?_)
 ·
  refine Zk ?_
  refine Zq (Zb (Zq (Zr ?_)))
  refine Zy ?_
  refine Zq ?_
  refine VC.draw ((List.range 9).map fun k => (k, true)) mixed (by kernel_rfl) (by kernel_rfl) (by kernel_rfl) ?_
  refine Zw rfl (q_move rfl) ?_
  refine Zw rfl (q_move rfl) ?_
  obtain ⟨z18_2, nz18_2, hz18_2, hS⟩ := at_s hS
  refine Zw rfl (q_ixm (s := s1_0) Tryz.underlying55 gsz278 rfl rfl nz18_2 (lt_of_get nz18_2 hz18_2)) ?_
  refine Zw rfl (q_els (s := s1_0) gagg278 rfl rfl hz18_2) ?_
  refine Zw rfl (q_move rfl) ?_
  refine Zw rfl (q_move rfl) ?_
  obtain ⟨z22_3, nz22_3, hz22_3, hS⟩ := at_s hS
  refine Zw rfl (q_ixm (s := s2_1) Tryz.underlying55 gsz278 rfl rfl nz22_3 (lt_of_get nz22_3 hz22_3)) ?_
  refine Zw rfl (q_els (s := s2_1) gagg278 rfl rfl hz22_3) ?_
  refine Zw rfl (q_stneq geqg278 (geqs278 z18_2.verb z18_2.commit z18_2.text z22_3.verb z22_3.commit z22_3.text) rfl rfl) ?_
  refine VD.to (fun _ _ h => h) ?_
  refine VC.keep (ρ' := [(0, s1_0.val), (1, s2_1.val), (12, i64 (s1_0.l.length : Int)), (13, i64 x13_1), (24, .bool (!decide (z18_2.verb = z22_3.verb ∧ z18_2.commit = z22_3.commit ∧ z18_2.text = z22_3.text)))]) [0, 1, 12, 13, 24] rfl ?_
  refine Zcn hS (fun h24 hS => ?_) (fun h24 hS => ?_)
  ·
   refine Zq (Zr ?_)
   refine Zy ?_
   replace hS := up2 hS hK1
   cases hS
   exact Ze
  refine Zk ?_
  refine Zr ?_
  obtain ⟨b25, hS⟩ := gd_s hS
  refine Zu (q_add rfl rfl b25) ?_
  refine Zm ?_
  refine VL.rnd (x13_1 + 1) [0, 1, 12, 13] (fun _ _ h => h) (go2 hS hK1) rfl
 replace hS := up2 hS hK1
 refine Zx ?_
 refine Zq (Zr ?_)
 refine Zy ?_
 cases hS
 exact Ze
theorem state_sameSeq_ct (a_0 : StateSeq) (b_1 : StateSeq) {r : Bool} (hS : Sh.state_sameSeq a_0.pl b_1.pl = some r) :
 Ct Tryz.prog 159 [.agg (zStateSeq a_0).toArray, .agg (zStateSeq b_1).toArray] (a_0.doing.ok.and (a_0.todo.ok.and (a_0.index.ok.and (a_0.work.ok.and (b_1.doing.ok.and (b_1.todo.ok.and (b_1.index.ok.and b_1.work.ok))))))) (Ow.emp) (X := Unit) (fun _ => .bool r) (fun _ => True) (fun _ => Mo.tt) (fun _ => Ow.emp) := by
 refine Zo Tryz.func159 Tryz.ntmps159 fun c => ?_
 unfold Sh.state_sameSeq at hS
 refine Zq (Zr ?_)
 refine VL.box (cs := (zStateSeq a_0)) rfl rfl (by decide) fun b2_1 => ?_
 refine VL.box (cs := (zStateSeq b_1)) rfl rfl (by decide) fun b3_2 => ?_
 refine Zy ?_
 refine Zq (Zr ?_)
 refine Zu (q_field gfa57_0 rfl) ?_
 refine Zu (q_fe gone9 rfl rfl) ?_
 refine Zu (q_field gfa57_0 rfl) ?_
 refine Zu (q_fe gone9 rfl rfl) ?_
 refine Zy ?_
 refine Zsp 10 hS (fun h10 hS => ?_) (fun h10 hS => ?_)
 ·
  refine Zh (q_field gfa57_1 rfl) ?_
  refine Zh (q_fe gone3 rfl rfl) ?_
  refine Zh (q_field gfa57_1 rfl) ?_
  refine Zh (q_fe gone3 rfl rfl) ?_
  refine Zh (q_eql rfl rfl) ?_
  refine Zy ?_
  refine Zsp 17 hS (fun h17 hS => ?_) (fun h17 hS => ?_)
  ·
   refine Zh (q_field gfa57_2 rfl) ?_
   refine Zh (q_fe gone9 rfl rfl) ?_
   refine Zh (q_field gfa57_2 rfl) ?_
   refine Zh (q_fe gone9 rfl rfl) ?_
   refine Zh (q_seq rfl rfl) ?_
   refine Zy ?_
   refine Zsp 24 hS (fun h24 hS => ?_) (fun h24 hS => ?_)
   ·
    refine Zh (q_field gfa57_3 rfl) ?_
    refine Zh (q_fe gone55 rfl rfl) ?_
    refine Zh (q_field gfa57_3 rfl) ?_
    refine Zh (q_fe gone55 rfl rfl) ?_
    obtain ⟨y29_3, ey29_3, hS⟩ := bd_s hS
    refine Zh (q_call (slices_Equal_todo_Step_todo_Step_ct a_0.doing b_1.doing ey29_3) rfl (fun _ _ => rfl)) ?_
    refine Zy ?_
    refine Zspb 31 hS (fun h31 hS => ?_) (fun h31 hS => ?_)
    ·
     refine Zh (q_field gfa57_4 rfl) ?_
     refine Zh (q_fe gone55 rfl rfl) ?_
     refine Zh (q_field gfa57_4 rfl) ?_
     refine Zh (q_fe gone55 rfl rfl) ?_
     obtain ⟨y36_4, ey36_4, hS⟩ := bd_s hS
     refine Zh (q_call (slices_Equal_todo_Step_todo_Step_ct a_0.todo b_1.todo ey36_4) rfl (fun _ _ => rfl)) ?_
     refine Zy ?_
     refine Zspb 38 hS (fun h38 hS => ?_) (fun h38 hS => ?_)
     ·
      refine Zh (q_field gfa57_5 rfl) ?_
      refine Zh (q_fe gone3 rfl rfl) ?_
      refine Zh (q_field gfa57_5 rfl) ?_
      refine Zh (q_fe gone3 rfl rfl) ?_
      refine Zh (q_eql rfl rfl) ?_
      refine Zy ?_
      refine Zsp 45 hS (fun h45 hS => ?_) (fun h45 hS => ?_)
      ·
       refine Zh (q_field gfa57_6 rfl) ?_
       refine Zh (q_fe gone9 rfl rfl) ?_
       refine Zh (q_field gfa57_6 rfl) ?_
       refine Zh (q_fe gone9 rfl rfl) ?_
       refine Zh (q_seq rfl rfl) ?_
       refine Zy ?_
       refine Zsp 52 hS (fun h52 hS => ?_) (fun h52 hS => ?_)
       ·
        refine Zh (q_field gfa57_7 rfl) ?_
        refine Zh (q_fep (j := 7) (n := 2) gagg54 rfl rfl rfl) ?_
        refine Zh (q_field gfa57_7 rfl) ?_
        refine Zh (q_fep (j := 7) (n := 2) gagg54 rfl rfl rfl) ?_
        refine Zh (q_steql geqg54 (geqs54 a_0.head_branch a_0.head_commit b_1.head_branch b_1.head_commit) rfl rfl) ?_
        refine Zy ?_
        refine Zsp 59 hS (fun h59 hS => ?_) (fun h59 hS => ?_)
        ·
         refine Zh (q_field gfa57_8 rfl) ?_
         refine Zh (q_fe gone51 rfl rfl) ?_
         refine Zh (q_field gfa57_8 rfl) ?_
         refine Zh (q_fe gone51 rfl rfl) ?_
         obtain ⟨y64_5, ey64_5, hS⟩ := bd_s hS
         refine Zh (q_call (index_Same_ct a_0.index b_1.index ey64_5) rfl (fun _ _ => rfl)) ?_
         refine Zy ?_
         refine Zspb 66 hS (fun h66 hS => ?_) (fun h66 hS => ?_)
         ·
          refine Zh (q_field gfa57_9 rfl) ?_
          refine Zh (q_fe gone50 rfl rfl) ?_
          refine Zh (q_field gfa57_9 rfl) ?_
          refine Zh (q_fe gone50 rfl rfl) ?_
          obtain ⟨y71_6, ey71_6, hS⟩ := bd_s hS
          refine Zh (q_call (files_Row_Same_ct a_0.work b_1.work ey71_6) rfl (fun _ _ => rfl)) ?_
          refine Zy ?_
          refine VC.keep (ρ' := [(4, .bool y71_6)]) [4] rfl ?_
          cases hS
          exact Ze
         refine VL.runs 7 [(4, some false)] (by kernel_rfl) ?_
         refine Zl ?_
         refine VC.keep (ρ' := [(4, .bool false)]) [4] rfl ?_
         cases hS
         exact Ze
        refine VL.runs 14 [(4, some false)] (by kernel_rfl) ?_
        refine Zl ?_
        refine VC.keep (ρ' := [(4, .bool false)]) [4] rfl ?_
        cases hS
        exact Ze
       refine VL.runs 21 [(4, some false)] (by kernel_rfl) ?_
       refine Zl ?_
       refine VC.keep (ρ' := [(4, .bool false)]) [4] rfl ?_
       cases hS
       exact Ze
      refine VL.runs 28 [(4, some false)] (by kernel_rfl) ?_
      refine Zl ?_
      refine VC.keep (ρ' := [(4, .bool false)]) [4] rfl ?_
      cases hS
      exact Ze
     refine VL.runs 35 [(4, some false)] (by kernel_rfl) ?_
     refine Zl ?_
     refine VC.keep (ρ' := [(4, .bool false)]) [4] rfl ?_
     cases hS
     exact Ze
    refine VL.runs 42 [(4, some false)] (by kernel_rfl) ?_
    refine Zl ?_
    refine VC.keep (ρ' := [(4, .bool false)]) [4] rfl ?_
    cases hS
    exact Ze
   refine VL.runs 49 [(4, some false)] (by kernel_rfl) ?_
   refine Zl ?_
   refine VC.keep (ρ' := [(4, .bool false)]) [4] rfl ?_
   cases hS
   exact Ze
  refine VL.runs 56 [(4, some false)] (by kernel_rfl) ?_
  refine Zl ?_
  refine VC.keep (ρ' := [(4, .bool false)]) [4] rfl ?_
  cases hS
  exact Ze
 refine VL.runs 63 [(4, some false)] (by kernel_rfl) ?_
 refine Zl ?_
 refine VC.keep (ρ' := [(4, .bool false)]) [4] rfl ?_
 cases hS
 exact Ze
theorem shelf_Stack_Same_1_ct (x_0 : ShelfShelf) (y_1 : ShelfShelf) {r : Bool} (hS : Sh.shelf_Stack_Same_1 x_0.pl y_1.pl = some r) :
 Ct Tryz.prog 210 [.agg #[i64 x_0.base, x_0.index.val, x_0.work.val, str x_0.text], .agg #[i64 y_1.base, y_1.index.val, y_1.work.val, str y_1.text]] (x_0.index.ok.and (x_0.work.ok.and (y_1.index.ok.and y_1.work.ok))) (Ow.emp) (X := Unit) (fun _ => .bool r) (fun _ => True) (fun _ => Mo.tt) (fun _ => Ow.emp) := by
 refine Zo Tryz.func210 Tryz.ntmps210 fun c => ?_
 unfold Sh.shelf_Stack_Same_1 at hS
 refine Zq (Zr ?_)
 refine VL.box (cs := [i64 x_0.base, x_0.index.val, x_0.work.val, str x_0.text]) rfl rfl (by decide) fun b2_1 => ?_
 refine VL.box (cs := [i64 y_1.base, y_1.index.val, y_1.work.val, str y_1.text]) rfl rfl (by decide) fun b3_2 => ?_
 refine Zy ?_
 refine Zq (Zr ?_)
 refine Zu (q_field gfa155_0 rfl) ?_
 refine Zu (q_fe gone3 rfl rfl) ?_
 refine Zu (q_field gfa155_0 rfl) ?_
 refine Zu (q_fe gone3 rfl rfl) ?_
 refine Zu (q_eql rfl rfl) ?_
 refine Zm ?_
 refine Zsp 10 hS (fun h10 hS => ?_) (fun h10 hS => ?_)
 ·
  refine Zh (q_field gfa155_1 rfl) ?_
  refine Zh (q_fe gone50 rfl rfl) ?_
  refine Zh (q_field gfa155_1 rfl) ?_
  refine Zh (q_fe gone50 rfl rfl) ?_
  obtain ⟨y15_3, ey15_3, hS⟩ := bd_s hS
  refine Zh (q_call (files_Row_Same_ct x_0.index y_1.index ey15_3) rfl (fun _ _ => rfl)) ?_
  refine Zy ?_
  refine Zspb 17 hS (fun h17 hS => ?_) (fun h17 hS => ?_)
  ·
   refine Zh (q_field gfa155_2 rfl) ?_
   refine Zh (q_fe gone50 rfl rfl) ?_
   refine Zh (q_field gfa155_2 rfl) ?_
   refine Zh (q_fe gone50 rfl rfl) ?_
   obtain ⟨y22_4, ey22_4, hS⟩ := bd_s hS
   refine Zh (q_call (files_Row_Same_ct x_0.work y_1.work ey22_4) rfl (fun _ _ => rfl)) ?_
   refine Zy ?_
   refine Zspb 24 hS (fun h24 hS => ?_) (fun h24 hS => ?_)
   ·
    refine Zh (q_field gfa155_3 rfl) ?_
    refine Zh (q_fe gone9 rfl rfl) ?_
    refine Zh (q_field gfa155_3 rfl) ?_
    refine Zh (q_fe gone9 rfl rfl) ?_
    refine Zh (q_seq rfl rfl) ?_
    refine Zy ?_
    refine VC.keep (ρ' := [(4, .bool (decide (x_0.text = y_1.text)))]) [4] rfl ?_
    cases hS
    exact Ze
   refine VL.runs 7 [(4, some false)] (by kernel_rfl) ?_
   refine Zl ?_
   refine VC.keep (ρ' := [(4, .bool false)]) [4] rfl ?_
   cases hS
   exact Ze
  refine VL.runs 14 [(4, some false)] (by kernel_rfl) ?_
  refine Zl ?_
  refine VC.keep (ρ' := [(4, .bool false)]) [4] rfl ?_
  cases hS
  exact Ze
 refine VL.runs 21 [(4, some false)] (by kernel_rfl) ?_
 refine Zl ?_
 refine VC.keep (ρ' := [(4, .bool false)]) [4] rfl ?_
 cases hS
 exact Ze
theorem slices_EqualFunc_shelf_Stack_shelf_Stack_shelf_Shelf_shelf_Shelf_ct (s1_0 : Sv ShelfShelf) (s2_1 : Sv ShelfShelf) {r : Bool} (hS : Sh.slices_EqualFunc_shelf_Stack_shelf_Stack_shelf_Shelf_shelf_Shelf (s1_0.l.map ShelfShelf.pl) (s2_1.l.map ShelfShelf.pl) = some r) :
 Ct Tryz.prog 209 [s1_0.val, s2_1.val, .func (.func 210) #[] #[]] (s1_0.ok.and s2_1.ok) (Ow.emp) (X := Unit) (fun _ => .bool r) (fun _ => True) (fun _ => Mo.tt) (fun _ => Ow.emp) := by
 refine Zo Tryz.func209 Tryz.ntmps209 fun c => ?_
 unfold Sh.slices_EqualFunc_shelf_Stack_shelf_Stack_shelf_Shelf_shelf_Shelf at hS
 refine Zq (Zr ?_)
 refine Zy ?_
 refine Zq (Zq (Zr ?_))
 refine Zm ?_
 refine Zu (q_lnm ShelfShelf.pl (s := s1_0) Tryz.underlying59 rfl) ?_
 refine Zm ?_
 refine Zu (q_lnm ShelfShelf.pl (s := s2_1) Tryz.underlying59 rfl) ?_
 refine Zu (q_neq rfl rfl) ?_
 refine Zl ?_
 refine Zcn hS (fun h14 hS => ?_) (fun h14 hS => ?_)
 ·
  refine Zq (Zr ?_)
  refine Zy ?_
  cases hS
  exact Ze
 refine Zk ?_
 refine Zq (Zq (Zr ?_))
 refine Zm ?_
 refine Zu (q_lnm ShelfShelf.pl (s := s1_0) Tryz.underlying59 rfl) ?_
 refine Zy ?_
 refine VC.keep (ρ' := [(1, s2_1.val), (2, .func (.func 210) #[] #[]), (15, s1_0.val), (16, i64 ((s1_0.l.map ShelfShelf.pl).length : Int)), (17, i64 0)]) [1, 2, 15, 16, 17] rfl ?_
 refine Zb ?_
 refine VC.iter (S := Int) (fun (x17_1 : Int) => x17_1) (fun (x17_1 : Int) => [(1, s2_1.val), (2, .func (.func 210) #[] #[]), (15, s1_0.val), (16, i64 ((s1_0.l.map ShelfShelf.pl).length : Int)), (17, i64 x17_1)]) (fun (x17_1 : Int) => Mo.tt) (fun (x17_1 : Int) => Ow.emp) 0 [1, 2, 15, 16, 17] hS rfl ?_
 clear hS
 rintro x17_1 m1 y1 hS hK1
 refine Zq (Zr ?_)
 refine Zu (q_lss rfl rfl) ?_
 refine Zl ?_
 refine Zq ?_
 refine Zc hS (fun h18 hS => ?_) (fun h18 hS => ?_)
 ·
  refine Zk ?_
  refine Zq (Zb (Zq (Zr ?_)))
  refine Zm ?_
  obtain ⟨z20_2, nz20_2, hz20_2, hS⟩ := atm_s hS
  refine VL.deep z20_2.m hz20_2 (fun _ q => q) ?_
  refine Zu (q_ixm (s := s1_0) Tryz.underlying59 gsz155 rfl rfl nz20_2 (lt_of_get nz20_2 hz20_2)) ?_
  refine Zu (q_els (s := s1_0) gagg155 rfl rfl hz20_2) ?_
  refine VL.alloc (cs := [i64 0, .slice none 0 0, .slice none 0 0, str []]) (by kernel_rfl) (by decide) fun b8_3 => ?_
  refine Za ?_
  refine Zv (vc := [i64 z20_2.base, z20_2.index.val, z20_2.work.val, str z20_2.text]) (cs' := [i64 z20_2.base, z20_2.index.val, z20_2.work.val, str z20_2.text]) rfl gsz155 ?_
  refine Zl ?_
  refine Zq (Zr ?_)
  refine Zy ?_
  obtain ⟨z24_4, nz24_4, hz24_4, hS⟩ := atm_s hS
  refine VL.deep z24_4.m hz24_4 (fun _ q => q) ?_
  refine Zu (q_ixm (s := s2_1) Tryz.underlying59 gsz155 rfl rfl nz24_4 (lt_of_get nz24_4 hz24_4)) ?_
  refine Zu (q_els (s := s2_1) gagg155 rfl rfl hz24_4) ?_
  refine VL.alloc (cs := [i64 0, .slice none 0 0, .slice none 0 0, str []]) (by kernel_rfl) (by decide) fun b9_5 => ?_
  refine Zv (vc := [i64 z24_4.base, z24_4.index.val, z24_4.work.val, str z24_4.text]) (cs' := [i64 z24_4.base, z24_4.index.val, z24_4.work.val, str z24_4.text]) rfl gsz155 ?_
  refine Zl ?_
  refine VC.keep (ρ' := [(1, s2_1.val), (2, .func (.func 210) #[] #[]), (15, s1_0.val), (16, i64 ((s1_0.l.map ShelfShelf.pl).length : Int)), (17, i64 x17_1), (8, ptr b8_3 0), (9, ptr b9_5 0)]) [1, 2, 15, 16, 17, 8, 9] rfl ?_
  refine Zq (Zr ?_)
  refine Zm ?_
  refine Zu (q_fes gagg155 rfl rfl) ?_
  refine Zu (q_fes gagg155 rfl rfl) ?_
  obtain ⟨y29_6, ey29_6, hS⟩ := bd_s hS
  refine Zu (q_callV (shelf_Stack_Same_1_ct z20_2 z24_4 ey29_6) rfl rfl (fun _ _ => rfl)) ?_
  refine Zu (q_not rfl) ?_
  refine Zl ?_
  refine Zcb hS (fun h30 hS => ?_) (fun h30 hS => ?_)
  ·
   refine Zq (Zr ?_)
   refine Zy ?_
   refine VC.keep (ρ' := [(6, .bool false)]) [6] rfl ?_
   replace hS := up2 hS hK1
   cases hS
   exact Ze
  refine Zk ?_
  refine VC.keep (ρ' := [(1, s2_1.val), (2, .func (.func 210) #[] #[]), (15, s1_0.val), (16, i64 ((s1_0.l.map ShelfShelf.pl).length : Int)), (17, i64 x17_1)]) [1, 2, 15, 16, 17] rfl ?_
  refine Zr ?_
  obtain ⟨b31, hS⟩ := gd_s hS
  refine Zu (q_add rfl rfl b31) ?_
  refine Zm ?_
  refine VL.rnd (x17_1 + 1) [1, 2, 15, 16, 17] (fun _ _ h => h) (go2 hS hK1) rfl
 replace hS := up2 hS hK1
 refine Zx ?_
 refine Zq (Zr ?_)
 refine Zy ?_
 cases hS
 exact Ze
theorem shelf_Stack_Same_ct (s_0 : Sv ShelfShelf) (t_1 : Sv ShelfShelf) {r : Bool} (hS : Sh.shelf_Stack_Same (s_0.l.map ShelfShelf.pl) (t_1.l.map ShelfShelf.pl) = some r) :
 Ct Tryz.prog 160 [s_0.val, t_1.val] (s_0.ok.and t_1.ok) (Ow.emp) (X := Unit) (fun _ => .bool r) (fun _ => True) (fun _ => Mo.tt) (fun _ => Ow.emp) := by
 refine Zo Tryz.func160 Tryz.ntmps160 fun c => ?_
 unfold Sh.shelf_Stack_Same at hS
 refine Zq (Zr ?_)
 refine Zy ?_
 refine Zq (Zr ?_)
 refine Zy ?_
 obtain ⟨y7_1, ey7_1, hS⟩ := bd_s hS
 refine Zu (q_call (slices_EqualFunc_shelf_Stack_shelf_Stack_shelf_Shelf_shelf_Shelf_ct s_0 t_1 ey7_1) rfl (fun _ _ => rfl)) ?_
 refine Zy ?_
 cases hS
 exact Ze
theorem state_sameNow_ct (a_0 : StateNow) (b_1 : StateNow) {r : Bool} (hS : Sh.state_sameNow a_0.pl b_1.pl = some r) :
 Ct Tryz.prog 73 [.agg #[a_0.work.val, a_0.index.val, a_0.refs.val, str a_0.head_branch, i64 a_0.head_commit, str a_0.seq_kind, i64 a_0.seq_other, str a_0.seq_text, a_0.seq_doing.val, a_0.seq_todo.val, i64 a_0.seq_made, str a_0.seq_branch, str a_0.seq_head_branch, i64 a_0.seq_head_commit, a_0.seq_index.val, a_0.seq_work.val, a_0.stash.val], .agg #[b_1.work.val, b_1.index.val, b_1.refs.val, str b_1.head_branch, i64 b_1.head_commit, str b_1.seq_kind, i64 b_1.seq_other, str b_1.seq_text, b_1.seq_doing.val, b_1.seq_todo.val, i64 b_1.seq_made, str b_1.seq_branch, str b_1.seq_head_branch, i64 b_1.seq_head_commit, b_1.seq_index.val, b_1.seq_work.val, b_1.stash.val]] (a_0.work.ok.and (a_0.index.ok.and (a_0.refs.ok.and (a_0.seq_doing.ok.and (a_0.seq_todo.ok.and (a_0.seq_index.ok.and (a_0.seq_work.ok.and (a_0.stash.ok.and (b_1.work.ok.and (b_1.index.ok.and (b_1.refs.ok.and (b_1.seq_doing.ok.and (b_1.seq_todo.ok.and (b_1.seq_index.ok.and (b_1.seq_work.ok.and b_1.stash.ok))))))))))))))) (Ow.emp) (X := Unit) (fun _ => .bool r) (fun _ => True) (fun _ => Mo.tt) (fun _ => Ow.emp) := by
 refine Zo Tryz.func73 Tryz.ntmps73 fun c => ?_
 unfold Sh.state_sameNow at hS
 refine Zq (Zr ?_)
 refine VL.box (cs := [a_0.work.val, a_0.index.val, a_0.refs.val, str a_0.head_branch, i64 a_0.head_commit, str a_0.seq_kind, i64 a_0.seq_other, str a_0.seq_text, a_0.seq_doing.val, a_0.seq_todo.val, i64 a_0.seq_made, str a_0.seq_branch, str a_0.seq_head_branch, i64 a_0.seq_head_commit, a_0.seq_index.val, a_0.seq_work.val, a_0.stash.val]) rfl rfl (by decide) fun b2_1 => ?_
 refine VL.box (cs := [b_1.work.val, b_1.index.val, b_1.refs.val, str b_1.head_branch, i64 b_1.head_commit, str b_1.seq_kind, i64 b_1.seq_other, str b_1.seq_text, b_1.seq_doing.val, b_1.seq_todo.val, i64 b_1.seq_made, str b_1.seq_branch, str b_1.seq_head_branch, i64 b_1.seq_head_commit, b_1.seq_index.val, b_1.seq_work.val, b_1.stash.val]) rfl rfl (by decide) fun b3_2 => ?_
 refine Zy ?_
 refine Zq (Zr ?_)
 refine Zu (q_field gfa61_0 rfl) ?_
 refine Zu (q_fe gone50 rfl rfl) ?_
 refine Zu (q_field gfa61_0 rfl) ?_
 refine Zu (q_fe gone50 rfl rfl) ?_
 obtain ⟨y9_3, ey9_3, hS⟩ := bd_s hS
 refine Zu (q_call (files_Row_Same_ct a_0.work b_1.work ey9_3) rfl (fun _ _ => rfl)) ?_
 refine Zm ?_
 refine Zspb 10 hS (fun h10 hS => ?_) (fun h10 hS => ?_)
 ·
  refine Zh (q_field gfa61_1 rfl) ?_
  refine Zh (q_fe gone51 rfl rfl) ?_
  refine Zh (q_field gfa61_1 rfl) ?_
  refine Zh (q_fe gone51 rfl rfl) ?_
  obtain ⟨y15_4, ey15_4, hS⟩ := bd_s hS
  refine Zh (q_call (index_Same_ct a_0.index b_1.index ey15_4) rfl (fun _ _ => rfl)) ?_
  refine Zy ?_
  refine Zspb 17 hS (fun h17 hS => ?_) (fun h17 hS => ?_)
  ·
   refine Zh (q_field gfa61_2 rfl) ?_
   refine Zh (q_fe gone52 rfl rfl) ?_
   refine Zh (q_field gfa61_2 rfl) ?_
   refine Zh (q_fe gone52 rfl rfl) ?_
   obtain ⟨y22_5, ey22_5, hS⟩ := bd_s hS
   refine Zh (q_call (slices_Equal_names_Ref_names_Ref_ct a_0.refs b_1.refs ey22_5) rfl (fun _ _ => rfl)) ?_
   refine Zy ?_
   refine Zspb 24 hS (fun h24 hS => ?_) (fun h24 hS => ?_)
   ·
    refine Zh (q_field gfa61_3 rfl) ?_
    refine Zh (q_fep (j := 3) (n := 2) gagg54 rfl rfl rfl) ?_
    refine Zh (q_field gfa61_3 rfl) ?_
    refine Zh (q_fep (j := 3) (n := 2) gagg54 rfl rfl rfl) ?_
    refine Zh (q_steql geqg54 (geqs54 a_0.head_branch a_0.head_commit b_1.head_branch b_1.head_commit) rfl rfl) ?_
    refine Zy ?_
    refine Zsp 31 hS (fun h31 hS => ?_) (fun h31 hS => ?_)
    ·
     refine Zh (q_field gfa61_4 rfl) ?_
     refine Zh (q_fep (j := 5) (n := 11) gagg57 rfl rfl rfl) ?_
     refine Zh (q_field gfa61_4 rfl) ?_
     refine Zh (q_fep (j := 5) (n := 11) gagg57 rfl rfl rfl) ?_
     obtain ⟨y36_6, ey36_6, hS⟩ := bd_s hS
     refine Zh (q_call (state_sameSeq_ct (⟨a_0.seq_kind, a_0.seq_other, a_0.seq_text, a_0.seq_doing, a_0.seq_todo, a_0.seq_made, a_0.seq_branch, a_0.seq_head_branch, a_0.seq_head_commit, a_0.seq_index, a_0.seq_work⟩ : StateSeq) (⟨b_1.seq_kind, b_1.seq_other, b_1.seq_text, b_1.seq_doing, b_1.seq_todo, b_1.seq_made, b_1.seq_branch, b_1.seq_head_branch, b_1.seq_head_commit, b_1.seq_index, b_1.seq_work⟩ : StateSeq) ey36_6) rfl (fun _ _ => rfl)) ?_
     refine Zy ?_
     refine Zspb 38 hS (fun h38 hS => ?_) (fun h38 hS => ?_)
     ·
      refine Zh (q_field gfa61_5 rfl) ?_
      refine Zh (q_fe gone59 rfl rfl) ?_
      refine Zh (q_field gfa61_5 rfl) ?_
      refine Zh (q_fe gone59 rfl rfl) ?_
      obtain ⟨y43_7, ey43_7, hS⟩ := bd_s hS
      refine Zh (q_call (shelf_Stack_Same_ct a_0.stash b_1.stash ey43_7) rfl (fun _ _ => rfl)) ?_
      refine Zy ?_
      refine VC.keep (ρ' := [(4, .bool y43_7)]) [4] rfl ?_
      cases hS
      exact Ze
     refine VL.runs 7 [(4, some false)] (by kernel_rfl) ?_
     refine Zl ?_
     refine VC.keep (ρ' := [(4, .bool false)]) [4] rfl ?_
     cases hS
     exact Ze
    refine VL.runs 14 [(4, some false)] (by kernel_rfl) ?_
    refine Zl ?_
    refine VC.keep (ρ' := [(4, .bool false)]) [4] rfl ?_
    cases hS
    exact Ze
   refine VL.runs 21 [(4, some false)] (by kernel_rfl) ?_
   refine Zl ?_
   refine VC.keep (ρ' := [(4, .bool false)]) [4] rfl ?_
   cases hS
   exact Ze
  refine VL.runs 28 [(4, some false)] (by kernel_rfl) ?_
  refine Zl ?_
  refine VC.keep (ρ' := [(4, .bool false)]) [4] rfl ?_
  cases hS
  exact Ze
 refine VL.runs 35 [(4, some false)] (by kernel_rfl) ?_
 refine Zl ?_
 refine VC.keep (ρ' := [(4, .bool false)]) [4] rfl ?_
 cases hS
 exact Ze
theorem slices_Equal_int_int_ct (s1_0 : Sv Int) (s2_1 : Sv Int) {r : Bool} (hS : Sh.slices_Equal_int_int s1_0.l s2_1.l = some r) :
 Ct Tryz.prog 122 [s1_0.val, s2_1.val] (s1_0.ok.and s2_1.ok) (Ow.emp) (X := Unit) (fun _ => .bool r) (fun _ => True) (fun _ => Mo.tt) (fun _ => Ow.emp) := by
 refine Zo Tryz.func122 Tryz.ntmps122 fun c => ?_
 unfold Sh.slices_Equal_int_int at hS
 refine Zq (Zr ?_)
 refine Zy ?_
 refine Zq (Zq (Zr ?_))
 refine Zm ?_
 refine Zu (q_ln (s := s1_0) Tryz.underlying32 rfl) ?_
 refine Zm ?_
 refine Zu (q_ln (s := s2_1) Tryz.underlying32 rfl) ?_
 refine Zu (q_neq rfl rfl) ?_
 refine Zl ?_
 refine Zcn hS (fun h10 hS => ?_) (fun h10 hS => ?_)
 ·
  refine Zq (Zr ?_)
  refine Zy ?_
  cases hS
  exact Ze
 refine Zk ?_
 refine Zq (Zq (Zr ?_))
 refine Zm ?_
 refine Zu (q_ln (s := s1_0) Tryz.underlying32 rfl) ?_
 refine Zy ?_
 refine VC.keep (ρ' := [(0, s1_0.val), (1, s2_1.val), (12, i64 (s1_0.l.length : Int)), (13, i64 0)]) [0, 1, 12, 13] rfl ?_
 refine Zb ?_
 refine VC.iter (S := Int) (fun (x13_1 : Int) => x13_1) (fun (x13_1 : Int) => [(0, s1_0.val), (1, s2_1.val), (12, i64 (s1_0.l.length : Int)), (13, i64 x13_1)]) (fun (x13_1 : Int) => Mo.tt) (fun (x13_1 : Int) => Ow.emp) 0 [0, 1, 12, 13] hS rfl ?_
 clear hS
 rintro x13_1 m1 y1 hS hK1
 refine Zq (Zr ?_)
 refine Zu (q_lss rfl rfl) ?_
 refine Zl ?_
 refine Zq ?_
 refine Zc hS (fun h14 hS => ?_) (fun h14 hS => ?_)
 ·
  refine Zk ?_
  refine Zq (Zb (Zq (Zr ?_)))
  refine Zy ?_
  refine Zq ?_
  refine VC.draw ((List.range 9).map fun k => (k, true)) mixed (by kernel_rfl) (by kernel_rfl) (by kernel_rfl) ?_
  refine Zw rfl (q_move rfl) ?_
  refine Zw rfl (q_move rfl) ?_
  obtain ⟨z18_2, nz18_2, hz18_2, hS⟩ := at_s hS
  refine Zw rfl (q_ixm (s := s1_0) Tryz.underlying32 gsz3 rfl rfl nz18_2 (lt_of_get nz18_2 hz18_2)) ?_
  refine Zw rfl (q_el (s := s1_0) gone3 rfl hz18_2 rfl) ?_
  refine Zw rfl (q_move rfl) ?_
  refine Zw rfl (q_move rfl) ?_
  obtain ⟨z22_3, nz22_3, hz22_3, hS⟩ := at_s hS
  refine Zw rfl (q_ixm (s := s2_1) Tryz.underlying32 gsz3 rfl rfl nz22_3 (lt_of_get nz22_3 hz22_3)) ?_
  refine Zw rfl (q_el (s := s2_1) gone3 rfl hz22_3 rfl) ?_
  refine Zw rfl (q_neq rfl rfl) ?_
  refine VD.to (fun _ _ h => h) ?_
  refine VC.keep (ρ' := [(0, s1_0.val), (1, s2_1.val), (12, i64 (s1_0.l.length : Int)), (13, i64 x13_1), (24, .bool (!decide (z18_2 = z22_3)))]) [0, 1, 12, 13, 24] rfl ?_
  refine Zcn hS (fun h24 hS => ?_) (fun h24 hS => ?_)
  ·
   refine Zq (Zr ?_)
   refine Zy ?_
   replace hS := up2 hS hK1
   cases hS
   exact Ze
  refine Zk ?_
  refine Zr ?_
  obtain ⟨b25, hS⟩ := gd_s hS
  refine Zu (q_add rfl rfl b25) ?_
  refine Zm ?_
  refine VL.rnd (x13_1 + 1) [0, 1, 12, 13] (fun _ _ h => h) (go2 hS hK1) rfl
 replace hS := up2 hS hK1
 refine Zx ?_
 refine Zq (Zr ?_)
 refine Zy ?_
 cases hS
 exact Ze
theorem state_sameCommit_ct (a_0 : StateCommit) (b_1 : StateCommit) {r : Bool} (hS : Sh.state_sameCommit a_0.pl b_1.pl = some r) :
 Ct Tryz.prog 75 [.agg #[a_0.tree.val, a_0.parents.val, i64 a_0.time, str a_0.text], .agg #[b_1.tree.val, b_1.parents.val, i64 b_1.time, str b_1.text]] (a_0.tree.ok.and (a_0.parents.ok.and (b_1.tree.ok.and b_1.parents.ok))) (Ow.emp) (X := Unit) (fun _ => .bool r) (fun _ => True) (fun _ => Mo.tt) (fun _ => Ow.emp) := by
 refine Zo Tryz.func75 Tryz.ntmps75 fun c => ?_
 unfold Sh.state_sameCommit at hS
 refine Zq (Zr ?_)
 refine VL.box (cs := [a_0.tree.val, a_0.parents.val, i64 a_0.time, str a_0.text]) rfl rfl (by decide) fun b2_1 => ?_
 refine VL.box (cs := [b_1.tree.val, b_1.parents.val, i64 b_1.time, str b_1.text]) rfl rfl (by decide) fun b3_2 => ?_
 refine Zy ?_
 refine Zq (Zr ?_)
 refine Zu (q_field gfa110_0 rfl) ?_
 refine Zu (q_fe gone50 rfl rfl) ?_
 refine Zu (q_field gfa110_0 rfl) ?_
 refine Zu (q_fe gone50 rfl rfl) ?_
 obtain ⟨y9_3, ey9_3, hS⟩ := bd_s hS
 refine Zu (q_call (files_Row_Same_ct a_0.tree b_1.tree ey9_3) rfl (fun _ _ => rfl)) ?_
 refine Zm ?_
 refine Zspb 10 hS (fun h10 hS => ?_) (fun h10 hS => ?_)
 ·
  refine Zh (q_field gfa110_1 rfl) ?_
  refine Zh (q_fe gone32 rfl rfl) ?_
  refine Zh (q_field gfa110_1 rfl) ?_
  refine Zh (q_fe gone32 rfl rfl) ?_
  obtain ⟨y15_4, ey15_4, hS⟩ := bd_s hS
  refine Zh (q_call (slices_Equal_int_int_ct a_0.parents b_1.parents ey15_4) rfl (fun _ _ => rfl)) ?_
  refine Zy ?_
  refine Zspb 17 hS (fun h17 hS => ?_) (fun h17 hS => ?_)
  ·
   refine Zh (q_field gfa110_2 rfl) ?_
   refine Zh (q_fe gone3 rfl rfl) ?_
   refine Zh (q_field gfa110_2 rfl) ?_
   refine Zh (q_fe gone3 rfl rfl) ?_
   refine Zh (q_eql rfl rfl) ?_
   refine Zy ?_
   refine Zsp 24 hS (fun h24 hS => ?_) (fun h24 hS => ?_)
   ·
    refine Zh (q_field gfa110_3 rfl) ?_
    refine Zh (q_fe gone9 rfl rfl) ?_
    refine Zh (q_field gfa110_3 rfl) ?_
    refine Zh (q_fe gone9 rfl rfl) ?_
    refine Zh (q_seq rfl rfl) ?_
    refine Zy ?_
    refine VC.keep (ρ' := [(4, .bool (decide (a_0.text = b_1.text)))]) [4] rfl ?_
    cases hS
    exact Ze
   refine VL.runs 7 [(4, some false)] (by kernel_rfl) ?_
   refine Zl ?_
   refine VC.keep (ρ' := [(4, .bool false)]) [4] rfl ?_
   cases hS
   exact Ze
  refine VL.runs 14 [(4, some false)] (by kernel_rfl) ?_
  refine Zl ?_
  refine VC.keep (ρ' := [(4, .bool false)]) [4] rfl ?_
  cases hS
  exact Ze
 refine VL.runs 21 [(4, some false)] (by kernel_rfl) ?_
 refine Zl ?_
 refine VC.keep (ρ' := [(4, .bool false)]) [4] rfl ?_
 cases hS
 exact Ze
theorem slices_EqualFunc_state_Commit_state_Commit_state_Commit_state_Commit_ct (s1_0 : Sv StateCommit) (s2_1 : Sv StateCommit) {r : Bool} (hS : Sh.slices_EqualFunc_state_Commit_state_Commit_state_Commit_state_Commit (s1_0.l.map StateCommit.pl) (s2_1.l.map StateCommit.pl) = some r) :
 Ct Tryz.prog 74 [s1_0.val, s2_1.val, .func (.func 75) #[] #[]] (s1_0.ok.and s2_1.ok) (Ow.emp) (X := Unit) (fun _ => .bool r) (fun _ => True) (fun _ => Mo.tt) (fun _ => Ow.emp) := by
 refine Zo Tryz.func74 Tryz.ntmps74 fun c => ?_
 unfold Sh.slices_EqualFunc_state_Commit_state_Commit_state_Commit_state_Commit at hS
 refine Zq (Zr ?_)
 refine Zy ?_
 refine Zq (Zq (Zr ?_))
 refine Zm ?_
 refine Zu (q_lnm StateCommit.pl (s := s1_0) Tryz.underlying68 rfl) ?_
 refine Zm ?_
 refine Zu (q_lnm StateCommit.pl (s := s2_1) Tryz.underlying68 rfl) ?_
 refine Zu (q_neq rfl rfl) ?_
 refine Zl ?_
 refine Zcn hS (fun h14 hS => ?_) (fun h14 hS => ?_)
 ·
  refine Zq (Zr ?_)
  refine Zy ?_
  cases hS
  exact Ze
 refine Zk ?_
 refine Zq (Zq (Zr ?_))
 refine Zm ?_
 refine Zu (q_lnm StateCommit.pl (s := s1_0) Tryz.underlying68 rfl) ?_
 refine Zy ?_
 refine VC.keep (ρ' := [(1, s2_1.val), (2, .func (.func 75) #[] #[]), (15, s1_0.val), (16, i64 ((s1_0.l.map StateCommit.pl).length : Int)), (17, i64 0)]) [1, 2, 15, 16, 17] rfl ?_
 refine Zb ?_
 refine VC.iter (S := Int) (fun (x17_1 : Int) => x17_1) (fun (x17_1 : Int) => [(1, s2_1.val), (2, .func (.func 75) #[] #[]), (15, s1_0.val), (16, i64 ((s1_0.l.map StateCommit.pl).length : Int)), (17, i64 x17_1)]) (fun (x17_1 : Int) => Mo.tt) (fun (x17_1 : Int) => Ow.emp) 0 [1, 2, 15, 16, 17] hS rfl ?_
 clear hS
 rintro x17_1 m1 y1 hS hK1
 refine Zq (Zr ?_)
 refine Zu (q_lss rfl rfl) ?_
 refine Zl ?_
 refine Zq ?_
 refine Zc hS (fun h18 hS => ?_) (fun h18 hS => ?_)
 ·
  refine Zk ?_
  refine Zq (Zb (Zq (Zr ?_)))
  refine Zm ?_
  obtain ⟨z20_2, nz20_2, hz20_2, hS⟩ := atm_s hS
  refine VL.deep z20_2.m hz20_2 (fun _ q => q) ?_
  refine Zu (q_ixm (s := s1_0) Tryz.underlying68 gsz110 rfl rfl nz20_2 (lt_of_get nz20_2 hz20_2)) ?_
  refine Zu (q_els (s := s1_0) gagg110 rfl rfl hz20_2) ?_
  refine VL.alloc (cs := [.slice none 0 0, .slice none 0 0, i64 0, str []]) (by kernel_rfl) (by decide) fun b8_3 => ?_
  refine Za ?_
  refine Zv (vc := [z20_2.tree.val, z20_2.parents.val, i64 z20_2.time, str z20_2.text]) (cs' := [z20_2.tree.val, z20_2.parents.val, i64 z20_2.time, str z20_2.text]) rfl gsz110 ?_
  refine Zl ?_
  refine Zq (Zr ?_)
  refine Zy ?_
  obtain ⟨z24_4, nz24_4, hz24_4, hS⟩ := atm_s hS
  refine VL.deep z24_4.m hz24_4 (fun _ q => q) ?_
  refine Zu (q_ixm (s := s2_1) Tryz.underlying68 gsz110 rfl rfl nz24_4 (lt_of_get nz24_4 hz24_4)) ?_
  refine Zu (q_els (s := s2_1) gagg110 rfl rfl hz24_4) ?_
  refine VL.alloc (cs := [.slice none 0 0, .slice none 0 0, i64 0, str []]) (by kernel_rfl) (by decide) fun b9_5 => ?_
  refine Zv (vc := [z24_4.tree.val, z24_4.parents.val, i64 z24_4.time, str z24_4.text]) (cs' := [z24_4.tree.val, z24_4.parents.val, i64 z24_4.time, str z24_4.text]) rfl gsz110 ?_
  refine Zl ?_
  refine VC.keep (ρ' := [(1, s2_1.val), (2, .func (.func 75) #[] #[]), (15, s1_0.val), (16, i64 ((s1_0.l.map StateCommit.pl).length : Int)), (17, i64 x17_1), (8, ptr b8_3 0), (9, ptr b9_5 0)]) [1, 2, 15, 16, 17, 8, 9] rfl ?_
  refine Zq (Zr ?_)
  refine Zm ?_
  refine Zu (q_fes gagg110 rfl rfl) ?_
  refine Zu (q_fes gagg110 rfl rfl) ?_
  obtain ⟨y29_6, ey29_6, hS⟩ := bd_s hS
  refine Zu (q_callV (state_sameCommit_ct z20_2 z24_4 ey29_6) rfl rfl (fun _ _ => rfl)) ?_
  refine Zu (q_not rfl) ?_
  refine Zl ?_
  refine Zcb hS (fun h30 hS => ?_) (fun h30 hS => ?_)
  ·
   refine Zq (Zr ?_)
   refine Zy ?_
   refine VC.keep (ρ' := [(6, .bool false)]) [6] rfl ?_
   replace hS := up2 hS hK1
   cases hS
   exact Ze
  refine Zk ?_
  refine VC.keep (ρ' := [(1, s2_1.val), (2, .func (.func 75) #[] #[]), (15, s1_0.val), (16, i64 ((s1_0.l.map StateCommit.pl).length : Int)), (17, i64 x17_1)]) [1, 2, 15, 16, 17] rfl ?_
  refine Zr ?_
  obtain ⟨b31, hS⟩ := gd_s hS
  refine Zu (q_add rfl rfl b31) ?_
  refine Zm ?_
  refine VL.rnd (x17_1 + 1) [1, 2, 15, 16, 17] (fun _ _ h => h) (go2 hS hK1) rfl
 replace hS := up2 hS hK1
 refine Zx ?_
 refine Zq (Zr ?_)
 refine Zy ?_
 cases hS
 exact Ze
theorem state_sameMark_ct (a_0 : Str) (b_1 : Str) {r : Bool} (hS : Sh.state_sameMark a_0 b_1 = some r) :
 Ct Tryz.prog 77 [str a_0, str b_1] Mo.tt (Ow.emp) (X := Unit) (fun _ => .bool r) (fun _ => True) (fun _ => Mo.tt) (fun _ => Ow.emp) := by
 refine Zo Tryz.func77 Tryz.ntmps77 fun c => ?_
 unfold Sh.state_sameMark at hS
 refine Zq (Zr ?_)
 refine Zy ?_
 refine Zq (Zr ?_)
 refine Zm ?_
 obtain ⟨y11_1, ey11_1, hS⟩ := bd_s hS
 refine VL.callF (state_Unmark_ct a_0 ey11_1) rfl (by decide) ?_
 rintro ⟨q11_1_0, q11_1_1⟩ rfl
 try dsimp only
 refine Zm ?_
 refine Zu (q_extract rfl rfl) ?_
 refine Zu (q_extract rfl rfl) ?_
 refine VL.alloc (cs := [.slice none 0 0, .slice none 0 0, .slice none 0 0, str [], i64 0, str [], i64 0, str [], .slice none 0 0, .slice none 0 0, i64 0, str [], str [], i64 0, .slice none 0 0, .slice none 0 0, .slice none 0 0]) (by kernel_rfl) (by decide) fun b5_2 => ?_
 refine Zv (vc := [q11_1_0.work.val, q11_1_0.index.val, q11_1_0.refs.val, str q11_1_0.head_branch, i64 q11_1_0.head_commit, str q11_1_0.seq_kind, i64 q11_1_0.seq_other, str q11_1_0.seq_text, q11_1_0.seq_doing.val, q11_1_0.seq_todo.val, i64 q11_1_0.seq_made, str q11_1_0.seq_branch, str q11_1_0.seq_head_branch, i64 q11_1_0.seq_head_commit, q11_1_0.seq_index.val, q11_1_0.seq_work.val, q11_1_0.stash.val]) (cs' := [q11_1_0.work.val, q11_1_0.index.val, q11_1_0.refs.val, str q11_1_0.head_branch, i64 q11_1_0.head_commit, str q11_1_0.seq_kind, i64 q11_1_0.seq_other, str q11_1_0.seq_text, q11_1_0.seq_doing.val, q11_1_0.seq_todo.val, i64 q11_1_0.seq_made, str q11_1_0.seq_branch, str q11_1_0.seq_head_branch, i64 q11_1_0.seq_head_commit, q11_1_0.seq_index.val, q11_1_0.seq_work.val, q11_1_0.stash.val]) rfl gsz61 ?_
 refine Zy ?_
 refine Zq (Zr ?_)
 refine Zm ?_
 obtain ⟨y16_3, ey16_3, hS⟩ := bd_s hS
 refine VL.callF (state_Unmark_ct b_1 ey16_3) rfl (by decide) ?_
 rintro ⟨q16_3_0, q16_3_1⟩ rfl
 try dsimp only
 refine Zm ?_
 refine Zu (q_extract rfl rfl) ?_
 refine Zu (q_extract rfl rfl) ?_
 refine VL.alloc (cs := [.slice none 0 0, .slice none 0 0, .slice none 0 0, str [], i64 0, str [], i64 0, str [], .slice none 0 0, .slice none 0 0, i64 0, str [], str [], i64 0, .slice none 0 0, .slice none 0 0, .slice none 0 0]) (by kernel_rfl) (by decide) fun b7_4 => ?_
 refine Zv (vc := [q16_3_0.work.val, q16_3_0.index.val, q16_3_0.refs.val, str q16_3_0.head_branch, i64 q16_3_0.head_commit, str q16_3_0.seq_kind, i64 q16_3_0.seq_other, str q16_3_0.seq_text, q16_3_0.seq_doing.val, q16_3_0.seq_todo.val, i64 q16_3_0.seq_made, str q16_3_0.seq_branch, str q16_3_0.seq_head_branch, i64 q16_3_0.seq_head_commit, q16_3_0.seq_index.val, q16_3_0.seq_work.val, q16_3_0.stash.val]) (cs' := [q16_3_0.work.val, q16_3_0.index.val, q16_3_0.refs.val, str q16_3_0.head_branch, i64 q16_3_0.head_commit, str q16_3_0.seq_kind, i64 q16_3_0.seq_other, str q16_3_0.seq_text, q16_3_0.seq_doing.val, q16_3_0.seq_todo.val, i64 q16_3_0.seq_made, str q16_3_0.seq_branch, str q16_3_0.seq_head_branch, i64 q16_3_0.seq_head_commit, q16_3_0.seq_index.val, q16_3_0.seq_work.val, q16_3_0.stash.val]) rfl gsz61 ?_
 refine Zy ?_
 refine VC.keep (ρ' := [(0, str a_0), (1, str b_1), (5, ptr b5_2 0), (6, q11_1_1.val), (7, ptr b7_4 0), (8, q16_3_1.val)]) [0, 1, 5, 6, 7, 8] rfl ?_
 refine Zq ?_
 refine VC.cutJ (S := Bool) (fun (x24_5 : Bool) => x24_5) (fun (x24_5 : Bool) => [(0, str a_0), (1, str b_1), (5, ptr b5_2 0), (7, ptr b7_4 0), (24, .bool x24_5)]) (fun (x24_5 : Bool) => Mo.tt) (fun (x24_5 : Bool) => Ow.star (Blk b7_4 [q16_3_0.work.val, q16_3_0.index.val, q16_3_0.refs.val, str q16_3_0.head_branch, i64 q16_3_0.head_commit, str q16_3_0.seq_kind, i64 q16_3_0.seq_other, str q16_3_0.seq_text, q16_3_0.seq_doing.val, q16_3_0.seq_todo.val, i64 q16_3_0.seq_made, str q16_3_0.seq_branch, str q16_3_0.seq_head_branch, i64 q16_3_0.seq_head_commit, q16_3_0.seq_index.val, q16_3_0.seq_work.val, q16_3_0.stash.val] 61) (Ow.star (Blk b5_2 [q11_1_0.work.val, q11_1_0.index.val, q11_1_0.refs.val, str q11_1_0.head_branch, i64 q11_1_0.head_commit, str q11_1_0.seq_kind, i64 q11_1_0.seq_other, str q11_1_0.seq_text, q11_1_0.seq_doing.val, q11_1_0.seq_todo.val, i64 q11_1_0.seq_made, str q11_1_0.seq_branch, str q11_1_0.seq_head_branch, i64 q11_1_0.seq_head_commit, q11_1_0.seq_index.val, q11_1_0.seq_work.val, q11_1_0.stash.val] 61) (Ow.emp))) hS ?_ ?_
 ·
  clear hS
  intro k6 hS
  refine Zr ?_
  refine Zm ?_
  refine Zu (q_erne Tryz.underlying26 rfl) ?_
  refine Zm ?_
  refine Zspn 21 hS (fun h21 hS => ?_) (fun h21 hS => ?_)
  ·
   refine VL.runs 3 [(24, some true)] (by kernel_rfl) ?_
   refine VL.mt true [0, 1, 5, 7, 24] (fun _ _ h => h) hS rfl
  refine Zg ?_
  refine Zh (q_erne Tryz.underlying26 rfl) ?_
  refine Zf ?_
  refine VL.mt (!decide (q16_3_1.pl.isNil = true)) [0, 1, 5, 7, 24] (fun _ _ h => h) hS rfl
 clear hS
 rintro x24_5 hS
 refine Zcb hS (fun h24 hS => ?_) (fun h24 hS => ?_)
 ·
  refine Zq (Zr ?_)
  refine Zy ?_
  cases hS
  exact Ze
 refine Zk ?_
 refine Zq (Zr ?_)
 refine Zu (q_fes gagg61 rfl rfl) ?_
 refine Zu (q_fes gagg61 rfl rfl) ?_
 obtain ⟨y30_7, ey30_7, hS⟩ := bd_s hS
 refine Zu (q_call (state_sameNow_ct q11_1_0 q16_3_0 ey30_7) rfl (fun _ _ => rfl)) ?_
 refine Zy ?_
 cases hS
 exact Ze
theorem slices_EqualFunc_string_string_string_string_ct (s1_0 : Sv Str) (s2_1 : Sv Str) {r : Bool} (hS : Sh.slices_EqualFunc_string_string_string_string s1_0.l s2_1.l = some r) :
 Ct Tryz.prog 76 [s1_0.val, s2_1.val, .func (.func 77) #[] #[]] (s1_0.ok.and s2_1.ok) (Ow.emp) (X := Unit) (fun _ => .bool r) (fun _ => True) (fun _ => Mo.tt) (fun _ => Ow.emp) := by
 refine Zo Tryz.func76 Tryz.ntmps76 fun c => ?_
 unfold Sh.slices_EqualFunc_string_string_string_string at hS
 refine Zq (Zr ?_)
 refine Zy ?_
 refine Zq (Zq (Zr ?_))
 refine Zm ?_
 refine Zu (q_ln (s := s1_0) Tryz.underlying89 rfl) ?_
 refine Zm ?_
 refine Zu (q_ln (s := s2_1) Tryz.underlying89 rfl) ?_
 refine Zu (q_neq rfl rfl) ?_
 refine Zl ?_
 refine Zcn hS (fun h14 hS => ?_) (fun h14 hS => ?_)
 ·
  refine Zq (Zr ?_)
  refine Zy ?_
  cases hS
  exact Ze
 refine Zk ?_
 refine Zq (Zq (Zr ?_))
 refine Zm ?_
 refine Zu (q_ln (s := s1_0) Tryz.underlying89 rfl) ?_
 refine Zy ?_
 refine VC.keep (ρ' := [(1, s2_1.val), (2, .func (.func 77) #[] #[]), (15, s1_0.val), (16, i64 (s1_0.l.length : Int)), (17, i64 0)]) [1, 2, 15, 16, 17] rfl ?_
 refine Zb ?_
 refine VC.iter (S := Int) (fun (x17_1 : Int) => x17_1) (fun (x17_1 : Int) => [(1, s2_1.val), (2, .func (.func 77) #[] #[]), (15, s1_0.val), (16, i64 (s1_0.l.length : Int)), (17, i64 x17_1)]) (fun (x17_1 : Int) => Mo.tt) (fun (x17_1 : Int) => Ow.emp) 0 [1, 2, 15, 16, 17] hS rfl ?_
 clear hS
 rintro x17_1 m1 y1 hS hK1
 refine Zq (Zr ?_)
 refine Zu (q_lss rfl rfl) ?_
 refine Zl ?_
 refine Zq ?_
 refine Zc hS (fun h18 hS => ?_) (fun h18 hS => ?_)
 ·
  refine Zk ?_
  refine Zq (Zb (Zq (Zr ?_)))
  refine Zm ?_
  obtain ⟨z20_2, nz20_2, hz20_2, hS⟩ := at_s hS
  refine Zu (q_ixm (s := s1_0) Tryz.underlying89 gsz9 rfl rfl nz20_2 (lt_of_get nz20_2 hz20_2)) ?_
  refine Zu (q_el (s := s1_0) gone9 rfl hz20_2 rfl) ?_
  refine Zy ?_
  refine Zq (Zr ?_)
  refine Zy ?_
  obtain ⟨z24_3, nz24_3, hz24_3, hS⟩ := at_s hS
  refine Zu (q_ixm (s := s2_1) Tryz.underlying89 gsz9 rfl rfl nz24_3 (lt_of_get nz24_3 hz24_3)) ?_
  refine Zu (q_el (s := s2_1) gone9 rfl hz24_3 rfl) ?_
  refine Zy ?_
  refine VC.keep (ρ' := [(1, s2_1.val), (2, .func (.func 77) #[] #[]), (15, s1_0.val), (16, i64 (s1_0.l.length : Int)), (17, i64 x17_1), (8, str z20_2), (9, str z24_3)]) [1, 2, 15, 16, 17, 8, 9] rfl ?_
  refine Zq (Zr ?_)
  refine Zy ?_
  obtain ⟨y29_4, ey29_4, hS⟩ := bd_s hS
  refine Zu (q_callV (state_sameMark_ct z20_2 z24_3 ey29_4) rfl rfl (fun _ _ => rfl)) ?_
  refine Zu (q_not rfl) ?_
  refine Zl ?_
  refine Zcb hS (fun h30 hS => ?_) (fun h30 hS => ?_)
  ·
   refine Zq (Zr ?_)
   refine Zy ?_
   refine VC.keep (ρ' := [(6, .bool false)]) [6] rfl ?_
   replace hS := up2 hS hK1
   cases hS
   exact Ze
  refine Zk ?_
  refine VC.keep (ρ' := [(1, s2_1.val), (2, .func (.func 77) #[] #[]), (15, s1_0.val), (16, i64 (s1_0.l.length : Int)), (17, i64 x17_1)]) [1, 2, 15, 16, 17] rfl ?_
  refine Zr ?_
  obtain ⟨b31, hS⟩ := gd_s hS
  refine Zu (q_add rfl rfl b31) ?_
  refine Zm ?_
  refine VL.rnd (x17_1 + 1) [1, 2, 15, 16, 17] (fun _ _ h => h) (go2 hS hK1) rfl
 replace hS := up2 hS hK1
 refine Zx ?_
 refine Zq (Zr ?_)
 refine Zy ?_
 cases hS
 exact Ze
theorem state_Same_ct (a_0 : StateState) (b_1 : StateState) {r : Bool} (hS : Sh.state_Same a_0.pl b_1.pl = some r) :
 Ct Tryz.prog 28 [.agg (zStateState a_0).toArray, .agg (zStateState b_1).toArray] (a_0.now_work.ok.and (a_0.now_index.ok.and (a_0.now_refs.ok.and (a_0.now_seq_doing.ok.and (a_0.now_seq_todo.ok.and (a_0.now_seq_index.ok.and (a_0.now_seq_work.ok.and (a_0.now_stash.ok.and (a_0.commits.ok.and (a_0.log_back.ok.and (a_0.log_forth.ok.and (b_1.now_work.ok.and (b_1.now_index.ok.and (b_1.now_refs.ok.and (b_1.now_seq_doing.ok.and (b_1.now_seq_todo.ok.and (b_1.now_seq_index.ok.and (b_1.now_seq_work.ok.and (b_1.now_stash.ok.and (b_1.commits.ok.and (b_1.log_back.ok.and b_1.log_forth.ok))))))))))))))))))))) (Ow.emp) (X := Unit) (fun _ => .bool r) (fun _ => True) (fun _ => Mo.tt) (fun _ => Ow.emp) := by
 refine Zo Tryz.func28 Tryz.ntmps28 fun c => ?_
 unfold Sh.state_Same at hS
 refine Zq (Zr ?_)
 refine VL.box (cs := (zStateState a_0)) rfl rfl (by decide) fun b2_1 => ?_
 refine VL.box (cs := (zStateState b_1)) rfl rfl (by decide) fun b3_2 => ?_
 refine Zy ?_
 refine Zq (Zr ?_)
 refine Zu (q_field gfa93_0 rfl) ?_
 refine Zu (q_fep (j := 0) (n := 17) gagg61 rfl rfl rfl) ?_
 refine Zu (q_field gfa93_0 rfl) ?_
 refine Zu (q_fep (j := 0) (n := 17) gagg61 rfl rfl rfl) ?_
 obtain ⟨y9_3, ey9_3, hS⟩ := bd_s hS
 refine Zu (q_call (state_sameNow_ct (⟨a_0.now_work, a_0.now_index, a_0.now_refs, a_0.now_head_branch, a_0.now_head_commit, a_0.now_seq_kind, a_0.now_seq_other, a_0.now_seq_text, a_0.now_seq_doing, a_0.now_seq_todo, a_0.now_seq_made, a_0.now_seq_branch, a_0.now_seq_head_branch, a_0.now_seq_head_commit, a_0.now_seq_index, a_0.now_seq_work, a_0.now_stash⟩ : StateNow) (⟨b_1.now_work, b_1.now_index, b_1.now_refs, b_1.now_head_branch, b_1.now_head_commit, b_1.now_seq_kind, b_1.now_seq_other, b_1.now_seq_text, b_1.now_seq_doing, b_1.now_seq_todo, b_1.now_seq_made, b_1.now_seq_branch, b_1.now_seq_head_branch, b_1.now_seq_head_commit, b_1.now_seq_index, b_1.now_seq_work, b_1.now_stash⟩ : StateNow) ey9_3) rfl (fun _ _ => rfl)) ?_
 refine Zm ?_
 refine Zspb 10 hS (fun h10 hS => ?_) (fun h10 hS => ?_)
 ·
  refine Zh (q_field gfa93_1 rfl) ?_
  refine Zh (q_fe gone68 rfl rfl) ?_
  refine Zh (q_field gfa93_1 rfl) ?_
  refine Zh (q_fe gone68 rfl rfl) ?_
  obtain ⟨y15_4, ey15_4, hS⟩ := bd_s hS
  refine Zh (q_call (slices_EqualFunc_state_Commit_state_Commit_state_Commit_state_Commit_ct a_0.commits b_1.commits ey15_4) rfl (fun _ _ => rfl)) ?_
  refine Zy ?_
  refine Zspb 17 hS (fun h17 hS => ?_) (fun h17 hS => ?_)
  ·
   refine Zh (q_field gfa93_3 rfl) ?_
   refine Zh (q_fe gone3 rfl rfl) ?_
   refine Zh (q_field gfa93_3 rfl) ?_
   refine Zh (q_fe gone3 rfl rfl) ?_
   refine Zh (q_eql rfl rfl) ?_
   refine Zy ?_
   refine Zsp 24 hS (fun h24 hS => ?_) (fun h24 hS => ?_)
   ·
    refine Zh (q_field gfa93_2 rfl) ?_
    refine Zh (q_field gfa91_0 rfl) ?_
    refine Zh (q_fe gone89 rfl rfl) ?_
    refine Zh (q_field gfa93_2 rfl) ?_
    refine Zh (q_field gfa91_0 rfl) ?_
    refine Zh (q_fe gone89 rfl rfl) ?_
    obtain ⟨y31_5, ey31_5, hS⟩ := bd_s hS
    refine Zh (q_call (slices_EqualFunc_string_string_string_string_ct a_0.log_back b_1.log_back ey31_5) rfl (fun _ _ => rfl)) ?_
    refine Zy ?_
    refine Zspb 33 hS (fun h33 hS => ?_) (fun h33 hS => ?_)
    ·
     refine Zh (q_field gfa93_2 rfl) ?_
     refine Zh (q_field gfa91_1 rfl) ?_
     refine Zh (q_fe gone89 rfl rfl) ?_
     refine Zh (q_field gfa93_2 rfl) ?_
     refine Zh (q_field gfa91_1 rfl) ?_
     refine Zh (q_fe gone89 rfl rfl) ?_
     obtain ⟨y40_6, ey40_6, hS⟩ := bd_s hS
     refine Zh (q_call (slices_EqualFunc_string_string_string_string_ct a_0.log_forth b_1.log_forth ey40_6) rfl (fun _ _ => rfl)) ?_
     refine Zy ?_
     refine VC.keep (ρ' := [(4, .bool y40_6)]) [4] rfl ?_
     cases hS
     exact Ze
    refine VL.runs 9 [(4, some false)] (by kernel_rfl) ?_
    refine Zl ?_
    refine VC.keep (ρ' := [(4, .bool false)]) [4] rfl ?_
    cases hS
    exact Ze
   refine VL.runs 18 [(4, some false)] (by kernel_rfl) ?_
   refine Zl ?_
   refine VC.keep (ρ' := [(4, .bool false)]) [4] rfl ?_
   cases hS
   exact Ze
  refine VL.runs 25 [(4, some false)] (by kernel_rfl) ?_
  refine Zl ?_
  refine VC.keep (ρ' := [(4, .bool false)]) [4] rfl ?_
  cases hS
  exact Ze
 refine VL.runs 32 [(4, some false)] (by kernel_rfl) ?_
 refine Zl ?_
 refine VC.keep (ρ' := [(4, .bool false)]) [4] rfl ?_
 cases hS
 exact Ze
theorem files_Row_Check_ct (r_0 : Sv FilesFile) {r : Err} (hS : Sh.files_Row_Check r_0.l = some r) :
 Ct Tryz.prog 97 [r_0.val] r_0.ok (Ow.emp) (X := Er) (fun x => x.val) (fun x => r = x.pl) (fun x => x.ok) (fun x => Ow.emp) := by
 refine Zo Tryz.func97 Tryz.ntmps97 fun c => ?_
 unfold Sh.files_Row_Check at hS
 refine Zq (Zr ?_)
 refine Zy ?_
 refine Zq (Zq (Zr ?_))
 refine Zm ?_
 refine Zu (q_ln (s := r_0) Tryz.underlying50 rfl) ?_
 refine Zu (q_gtr rfl rfl) ?_
 refine Zl ?_
 refine Zc hS (fun h7 hS => ?_) (fun h7 hS => ?_)
 ·
  refine Zq ?_
  cases hS
 refine Zk ?_
 refine Zq (Zq (Zr ?_))
 refine Zm ?_
 refine Zu (q_ln (s := r_0) Tryz.underlying50 rfl) ?_
 refine Zy ?_
 refine Zb ?_
 refine VC.iter (S := Unit) (fun (_ : Unit) => ()) (fun (_ : Unit) => [(0, r_0.val), (13, i64 (r_0.l.length : Int)), (14, i64 0)]) (fun (_ : Unit) => Mo.tt) (fun (_ : Unit) => Ow.emp) () [0, 13, 14] hS rfl ?_
 clear hS
 rintro _ m1 y1 hS hK1
 refine Zq (Zr ?_)
 refine Zu (q_lss rfl rfl) ?_
 refine Zl ?_
 refine Zq ?_
 refine Zc hS (fun h15 hS => ?_) (fun h15 hS => ?_)
 ·
  refine Zk ?_
  refine Zq (Zb (Zq (Zr ?_)))
  refine Zy ?_
  refine Zq ?_
  cases hS
 replace hS := up2 hS hK1
 refine Zx ?_
 refine Zq (Zr ?_)
 refine Zy ?_
 cases hS
 exact VC.ret (fin1 (.inr rfl) rfl rfl .nil rfl rfl (by (try dsimp only); exact InM.out) (fun _ _ => trivial))
theorem index_Check_ct (l_0 : Sv IndexEntry) {r : Err} (hS : Sh.index_Check l_0.l = some r) :
 Ct Tryz.prog 98 [l_0.val] l_0.ok (Ow.emp) (X := Er) (fun x => x.val) (fun x => r = x.pl) (fun x => x.ok) (fun x => Ow.emp) := by
 refine Zo Tryz.func98 Tryz.ntmps98 fun c => ?_
 unfold Sh.index_Check at hS
 refine Zq (Zr ?_)
 refine Zy ?_
 refine Zq (Zq (Zr ?_))
 refine Zm ?_
 refine Zu (q_ln (s := l_0) Tryz.underlying51 rfl) ?_
 refine Zu (q_gtr rfl rfl) ?_
 refine Zl ?_
 refine Zc hS (fun h7 hS => ?_) (fun h7 hS => ?_)
 ·
  refine Zq ?_
  cases hS
 refine Zk ?_
 refine Zq (Zq (Zr ?_))
 refine Zm ?_
 refine Zu (q_ln (s := l_0) Tryz.underlying51 rfl) ?_
 refine Zy ?_
 refine Zb ?_
 refine VC.iter (S := Unit) (fun (_ : Unit) => ()) (fun (_ : Unit) => [(0, l_0.val), (13, i64 (l_0.l.length : Int)), (14, i64 0)]) (fun (_ : Unit) => Mo.tt) (fun (_ : Unit) => Ow.emp) () [0, 13, 14] hS rfl ?_
 clear hS
 rintro _ m1 y1 hS hK1
 refine Zq (Zr ?_)
 refine Zu (q_lss rfl rfl) ?_
 refine Zl ?_
 refine Zq ?_
 refine Zc hS (fun h15 hS => ?_) (fun h15 hS => ?_)
 ·
  refine Zk ?_
  refine Zq (Zb (Zq (Zr ?_)))
  refine Zy ?_
  refine Zq ?_
  cases hS
 replace hS := up2 hS hK1
 refine Zx ?_
 refine Zq (Zr ?_)
 refine Zy ?_
 cases hS
 exact VC.ret (fin1 (.inr rfl) rfl rfl .nil rfl rfl (by (try dsimp only); exact InM.out) (fun _ _ => trivial))
theorem names_Good_ct (name_0 : Str) {r : Bool} (hS : Sh.names_Good name_0 = some r) :
 Ct Tryz.prog 181 [str name_0] Mo.tt (Ow.emp) (X := Unit) (fun _ => .bool r) (fun _ => True) (fun _ => Mo.tt) (fun _ => Ow.emp) := by
 refine Zo Tryz.func181 Tryz.ntmps181 fun c => ?_
 unfold Sh.names_Good at hS
 refine Zq (Zr ?_)
 refine Zy ?_
 refine Zq (Zq (Zr ?_))
 refine Zm ?_
 obtain ⟨b6, hS⟩ := gd_s hS
 refine VL.s2b Tryz.underlying9 Tryz.underlying22 Tryz.underlying5 rfl b6 (by decide) fun s6_1 hs6_1 => ?_
 replace hS := lt_to hs6_1 hS
 refine Zu (q_ln (s := s6_1) Tryz.underlying22 rfl) ?_
 refine Zy ?_
 refine Zb ?_
 refine VC.iter (S := Int) (fun (x8_3 : Int) => x8_3) (fun (x8_3 : Int) => [(0, str name_0), (6, s6_1.val), (7, i64 (s6_1.l.length : Int)), (8, i64 x8_3)]) (fun (x8_3 : Int) => Mo.tt) (fun (x8_3 : Int) => Ow.emp) 0 [0, 6, 7, 8] hS rfl ?_
 clear hS
 rintro x8_3 m1 y1 hS hK1
 refine Zq (Zr ?_)
 refine Zu (q_lss rfl rfl) ?_
 refine Zl ?_
 refine Zq ?_
 refine Zc hS (fun h9 hS => ?_) (fun h9 hS => ?_)
 ·
  refine Zk ?_
  refine Zq (Zb (Zq (Zr ?_)))
  refine Zm ?_
  obtain ⟨z11_4, nz11_4, hz11_4, hS⟩ := at_s hS
  refine Zu (q_ixm (s := s6_1) Tryz.underlying22 gsz5 rfl rfl nz11_4 (lt_of_get nz11_4 hz11_4)) ?_
  refine Zu (q_el (s := s6_1) gone5 rfl hz11_4 rfl) ?_
  refine Zy ?_
  refine VC.cutJ (S := Bool) (fun (x34_5 : Bool) => x34_5) (fun (x34_5 : Bool) => [(0, str name_0), (6, s6_1.val), (7, i64 (s6_1.l.length : Int)), (8, i64 x8_3), (34, .bool x34_5)]) (fun (x34_5 : Bool) => Mo.tt) (fun (x34_5 : Bool) => Ow.emp) hS ?_ ?_
  ·
   clear hS
   intro k6 hS
   refine Zr ?_
   refine Zm ?_
   refine Zu (q_lss rfl rfl) ?_
   refine Zm ?_
   refine Zsp 15 hS (fun h15 hS => ?_) (fun h15 hS => ?_)
   ·
    refine VL.runs 4 [(19, some true)] (by kernel_rfl) ?_
    refine Zg ?_
    refine Zh (q_eql rfl rfl) ?_
    refine Zg ?_
    refine Zsp 22 hS (fun h22 hS => ?_) (fun h22 hS => ?_)
    ·
     refine VL.runs 10 [(32, none)] (by kernel_rfl) ?_
     refine Zh (q_pick_t rfl rfl) ?_
     refine Zt ?_
     refine VL.mt true [0, 6, 7, 8, 34] (fun _ _ h => h) hS rfl
    refine Zg ?_
    refine Zh (q_neq rfl rfl) ?_
    refine Zg ?_
    refine Zspn 25 hS (fun h25 hS => ?_) (fun h25 hS => ?_)
    ·
     refine Zg ?_
     refine Zh (q_lss rfl rfl) ?_
     refine Zg ?_
     refine Zsp 28 hS (fun h28 hS => ?_) (fun h28 hS => ?_)
     ·
      refine Zy ?_
      refine Zh (q_pick_t rfl rfl) ?_
      refine Zh (q_pick_t rfl rfl) ?_
      refine Zh (q_pick_f rfl rfl) ?_
      refine Zt ?_
      refine VL.mt true [0, 6, 7, 8, 34] (fun _ _ h => h) hS rfl
     refine Zg ?_
     refine Zh (q_gtr rfl rfl) ?_
     refine Zh (q_pick_f rfl rfl) ?_
     refine Zh (q_pick_t rfl rfl) ?_
     refine Zh (q_pick_f rfl rfl) ?_
     refine Zt ?_
     refine VL.mt (decide (57 < (z11_4.toNat : Int))) [0, 6, 7, 8, 34] (fun _ _ h => h) hS rfl
    refine VL.runs 6 [(31, none)] (by kernel_rfl) ?_
    refine Zh (q_pick_f rfl rfl) ?_
    refine Zh (q_pick_f rfl rfl) ?_
    refine Zt ?_
    refine VL.mt false [0, 6, 7, 8, 34] (fun _ _ h => h) hS rfl
   refine Zg ?_
   refine Zh (q_gtr rfl rfl) ?_
   refine Zy ?_
   refine Zsp 19 hS (fun h19 hS => ?_) (fun h19 hS => ?_)
   ·
    refine Zg ?_
    refine Zh (q_eql rfl rfl) ?_
    refine Zg ?_
    refine Zsp 22 hS (fun h22 hS => ?_) (fun h22 hS => ?_)
    ·
     refine VL.runs 10 [(32, none)] (by kernel_rfl) ?_
     refine Zh (q_pick_t rfl rfl) ?_
     refine Zt ?_
     refine VL.mt true [0, 6, 7, 8, 34] (fun _ _ h => h) hS rfl
    refine Zg ?_
    refine Zh (q_neq rfl rfl) ?_
    refine Zg ?_
    refine Zspn 25 hS (fun h25 hS => ?_) (fun h25 hS => ?_)
    ·
     refine Zg ?_
     refine Zh (q_lss rfl rfl) ?_
     refine Zg ?_
     refine Zsp 28 hS (fun h28 hS => ?_) (fun h28 hS => ?_)
     ·
      refine Zy ?_
      refine Zh (q_pick_t rfl rfl) ?_
      refine Zh (q_pick_t rfl rfl) ?_
      refine Zh (q_pick_f rfl rfl) ?_
      refine Zt ?_
      refine VL.mt true [0, 6, 7, 8, 34] (fun _ _ h => h) hS rfl
     refine Zg ?_
     refine Zh (q_gtr rfl rfl) ?_
     refine Zh (q_pick_f rfl rfl) ?_
     refine Zh (q_pick_t rfl rfl) ?_
     refine Zh (q_pick_f rfl rfl) ?_
     refine Zt ?_
     refine VL.mt (decide (57 < (z11_4.toNat : Int))) [0, 6, 7, 8, 34] (fun _ _ h => h) hS rfl
    refine VL.runs 6 [(31, none)] (by kernel_rfl) ?_
    refine Zh (q_pick_f rfl rfl) ?_
    refine Zh (q_pick_f rfl rfl) ?_
    refine Zt ?_
    refine VL.mt false [0, 6, 7, 8, 34] (fun _ _ h => h) hS rfl
   refine VL.runs 15 [(34, some false)] (by kernel_rfl) ?_
   refine VL.mt false [0, 6, 7, 8, 34] (fun _ _ h => h) hS rfl
  clear hS
  rintro x34_5 hS
  refine Zcb hS (fun h34 hS => ?_) (fun h34 hS => ?_)
  ·
   refine Zq ?_
   cases hS
  refine Zk ?_
  refine Zr ?_
  obtain ⟨b35, hS⟩ := gd_s hS
  refine Zu (q_add rfl rfl b35) ?_
  refine Zm ?_
  refine VL.rnd (x8_3 + 1) [0, 6, 7, 8] (fun _ _ h => h) (go2 hS hK1) rfl
 replace hS := up2 hS hK1
 refine Zx ?_
 refine Zq (Zr ?_)
 refine Zm ?_
 refine Zu (q_slen Tryz.underlying9 rfl) ?_
 refine Zu (q_geq rfl rfl) ?_
 refine Zm ?_
 refine Zsp 39 hS (fun h39 hS => ?_) (fun h39 hS => ?_)
 ·
  refine Zg ?_
  refine Zh (q_slen Tryz.underlying9 rfl) ?_
  refine Zh (q_leq rfl rfl) ?_
  refine Zy ?_
  refine VC.keep (ρ' := [(2, .bool (decide ((name_0.length : Int) ≤ 32)))]) [2] rfl ?_
  cases hS
  exact Ze
 refine VL.runs 5 [(2, some false)] (by kernel_rfl) ?_
 refine Zl ?_
 cases hS
 exact Ze
theorem cmp_isNaN_string_ct (x_0 : Str) {r : Bool} (hS : Sh.cmp_isNaN_string x_0 = some r) :
 Ct Tryz.prog 227 [str x_0] Mo.tt (Ow.emp) (X := Unit) (fun _ => .bool r) (fun _ => True) (fun _ => Mo.tt) (fun _ => Ow.emp) := by
 refine Zo Tryz.func227 Tryz.ntmps227 fun c => ?_
 unfold Sh.cmp_isNaN_string at hS
 refine Zq (Zr ?_)
 refine Zy ?_
 refine Zq (Zr ?_)
 refine Zy ?_
 refine Zu (q_sne rfl rfl) ?_
 refine Zy ?_
 cases hS
 exact Ze
theorem cmp_Compare_string_ct (x_0 : Str) (y_1 : Str) {r : Int} (hS : Sh.cmp_Compare_string x_0 y_1 = some r) :
 Ct Tryz.prog 182 [str x_0, str y_1] Mo.tt (Ow.emp) (X := Unit) (fun _ => i64 r) (fun _ => True) (fun _ => Mo.tt) (fun _ => Ow.emp) := by
 refine Zo Tryz.func182 Tryz.ntmps182 fun c => ?_
 unfold Sh.cmp_Compare_string at hS
 refine Zq (Zr ?_)
 refine Zy ?_
 refine Zq (Zr ?_)
 refine Zm ?_
 obtain ⟨y8_1, ey8_1, hS⟩ := bd_s hS
 refine Zu (q_call (cmp_isNaN_string_ct x_0 ey8_1) rfl (fun _ _ => rfl)) ?_
 refine Zy ?_
 refine Zq (Zr ?_)
 refine Zm ?_
 obtain ⟨y10_2, ey10_2, hS⟩ := bd_s hS
 refine Zu (q_call (cmp_isNaN_string_ct y_1 ey10_2) rfl (fun _ _ => rfl)) ?_
 refine Zy ?_
 refine Zq (Zq (Zr ?_))
 refine Zy ?_
 refine Zcb hS (fun h11 hS => ?_) (fun h11 hS => ?_)
 ·
  refine Zq (Zq (Zr ?_))
  refine Zy ?_
  refine VC.keep (ρ' := [(12, .bool y10_2)]) [12] rfl ?_
  refine Zcb hS (fun h12 hS => ?_) (fun h12 hS => ?_)
  ·
   refine Zq (Zr ?_)
   refine Zy ?_
   cases hS
   exact Ze
  refine Zk ?_
  refine Zq (Zr ?_)
  refine Zy ?_
  cases hS
  exact Ze
 refine Zk ?_
 refine Zq (Zq (Zr ?_))
 refine Zy ?_
 refine VC.keep (ρ' := [(0, str x_0), (1, str y_1), (13, .bool y10_2)]) [0, 1, 13] rfl ?_
 refine Zcb hS (fun h13 hS => ?_) (fun h13 hS => ?_)
 ·
  refine Zq (Zr ?_)
  refine Zy ?_
  cases hS
  exact Ze
 refine Zk ?_
 refine Zq (Zq (Zr ?_))
 refine Zy ?_
 refine Zu (q_slss rfl rfl) ?_
 refine Zl ?_
 refine Zcb hS (fun h16 hS => ?_) (fun h16 hS => ?_)
 ·
  refine Zq (Zr ?_)
  refine Zy ?_
  cases hS
  exact Ze
 refine Zk ?_
 refine Zq (Zq (Zr ?_))
 refine Zy ?_
 refine Zu (q_sgtr rfl rfl) ?_
 refine Zl ?_
 refine Zcb hS (fun h19 hS => ?_) (fun h19 hS => ?_)
 ·
  refine Zq (Zr ?_)
  refine Zy ?_
  cases hS
  exact Ze
 refine Zk ?_
 refine Zq (Zr ?_)
 refine Zy ?_
 cases hS
 exact Ze
theorem state_has_ct (s_0 : StateState) (id_1 : Int) {r : Bool} (hS : Sh.state_has s_0.pl id_1 = some r) :
 Ct Tryz.prog 91 [.agg (zStateState s_0).toArray, i64 id_1] (s_0.now_work.ok.and (s_0.now_index.ok.and (s_0.now_refs.ok.and (s_0.now_seq_doing.ok.and (s_0.now_seq_todo.ok.and (s_0.now_seq_index.ok.and (s_0.now_seq_work.ok.and (s_0.now_stash.ok.and (s_0.commits.ok.and (s_0.log_back.ok.and s_0.log_forth.ok)))))))))) (Ow.emp) (X := Unit) (fun _ => .bool r) (fun _ => True) (fun _ => Mo.tt) (fun _ => Ow.emp) := by
 refine Zo Tryz.func91 Tryz.ntmps91 fun c => ?_
 unfold Sh.state_has at hS
 refine Zq (Zr ?_)
 refine VL.box (cs := (zStateState s_0)) rfl rfl (by decide) fun b2_1 => ?_
 refine Zy ?_
 refine Zq (Zr ?_)
 refine Zm ?_
 refine Zu (q_geq rfl rfl) ?_
 refine Zm ?_
 refine Zsp 7 hS (fun h7 hS => ?_) (fun h7 hS => ?_)
 ·
  refine Zg ?_
  refine Zh (q_field gfa93_1 rfl) ?_
  refine Zh (q_fe gone68 rfl rfl) ?_
  refine Zh (q_lnm StateCommit.pl (s := s_0.commits) Tryz.underlying68 rfl) ?_
  refine Zh (q_leq rfl rfl) ?_
  refine Zy ?_
  refine VC.keep (ρ' := [(4, .bool (decide (id_1 ≤ ((s_0.commits.l.map StateCommit.pl).length : Int))))]) [4] rfl ?_
  cases hS
  exact Ze
 refine VL.runs 7 [(4, some false)] (by kernel_rfl) ?_
 refine Zl ?_
 cases hS
 exact Ze
theorem state_refs_ct (s_0 : StateState) {r : Int} (hS : Sh.state_refs s_0.pl = some r) :
 Ct Tryz.prog 100 [.agg (zStateState s_0).toArray] (s_0.now_work.ok.and (s_0.now_index.ok.and (s_0.now_refs.ok.and (s_0.now_seq_doing.ok.and (s_0.now_seq_todo.ok.and (s_0.now_seq_index.ok.and (s_0.now_seq_work.ok.and (s_0.now_stash.ok.and (s_0.commits.ok.and (s_0.log_back.ok.and s_0.log_forth.ok)))))))))) (Ow.emp) (X := Unit) (fun _ => i64 r) (fun _ => True) (fun _ => Mo.tt) (fun _ => Ow.emp) := by
 refine Zo Tryz.func100 Tryz.ntmps100 fun c => ?_
 unfold Sh.state_refs at hS
 refine Zq (Zr ?_)
 refine VL.box (cs := (zStateState s_0)) rfl rfl (by decide) fun b1_1 => ?_
 refine Zy ?_
 refine Zq (Zq (Zr ?_))
 refine Zu (q_field gfa93_0 rfl) ?_
 refine Zu (q_field gfa61_2 rfl) ?_
 refine Zu (q_fe gone52 rfl rfl) ?_
 refine Zu (q_ln (s := s_0.now_refs) Tryz.underlying52 rfl) ?_
 refine Zy ?_
 refine Zb ?_
 refine VC.iter (S := Int) (fun (x9_2 : Int) => x9_2) (fun (x9_2 : Int) => [(1, ptr b1_1 0), (7, s_0.now_refs.val), (8, i64 (s_0.now_refs.l.length : Int)), (9, i64 x9_2)]) (fun (x9_2 : Int) => Mo.tt) (fun (x9_2 : Int) => Ow.star (Blk b1_1 (zStateState s_0) 93) (Ow.emp)) 0 [1, 7, 8, 9] hS rfl ?_
 clear hS
 rintro x9_2 m1 y1 hS hK1
 refine Zq (Zr ?_)
 refine Zu (q_lss rfl rfl) ?_
 refine Zl ?_
 refine Zq ?_
 refine Zc hS (fun h10 hS => ?_) (fun h10 hS => ?_)
 ·
  refine Zk ?_
  refine Zq (Zb (Zq (Zr ?_)))
  refine Zm ?_
  obtain ⟨z12_3, nz12_3, hz12_3, hS⟩ := at_s hS
  refine Zu (q_ixm (s := s_0.now_refs) Tryz.underlying52 gsz216 rfl rfl nz12_3 (lt_of_get nz12_3 hz12_3)) ?_
  refine Zu (q_els (s := s_0.now_refs) gagg216 rfl rfl hz12_3) ?_
  refine VL.alloc (cs := [str [], i64 0]) (by kernel_rfl) (by decide) fun b4_4 => ?_
  refine Za ?_
  refine Zv (vc := [str z12_3.name, i64 z12_3.commit]) (cs' := [str z12_3.name, i64 z12_3.commit]) rfl gsz216 ?_
  refine Zl ?_
  refine Zb (Zq (Zr ?_))
  refine Zu (q_field gfa216_0 rfl) ?_
  refine Zu (q_fe gone9 rfl rfl) ?_
  obtain ⟨y17_5, ey17_5, hS⟩ := bd_s hS
  refine Zu (q_call (names_Good_ct z12_3.name ey17_5) rfl (fun _ _ => rfl)) ?_
  refine Zu (q_not rfl) ?_
  refine Zy ?_
  refine VC.keep (ρ' := [(1, ptr b1_1 0), (7, s_0.now_refs.val), (8, i64 (s_0.now_refs.l.length : Int)), (9, i64 x9_2), (4, ptr b4_4 0), (3, i64 x9_2), (14, .bool (!y17_5))]) [1, 7, 8, 9, 4, 3, 14] rfl ?_
  refine Zcb hS (fun h14 hS => ?_) (fun h14 hS => ?_)
  ·
   refine Zq ?_
   cases hS
  refine VC.cutJ (S := Bool) (fun (x19_6 : Bool) => x19_6) (fun (x19_6 : Bool) => [(1, ptr b1_1 0), (4, ptr b4_4 0), (7, s_0.now_refs.val), (8, i64 (s_0.now_refs.l.length : Int)), (9, i64 x9_2), (19, .bool x19_6)]) (fun (x19_6 : Bool) => Mo.tt) (fun (x19_6 : Bool) => Ow.star (Blk b4_4 [str z12_3.name, i64 z12_3.commit] 216) (Ow.star (Blk b1_1 (zStateState s_0) 93) (Ow.emp))) hS ?_ ?_
  ·
   clear hS
   intro k7 hS
   refine VC.draw ((List.range 17).map fun k => (k, true)) mixed (by kernel_rfl) (by kernel_rfl) (by kernel_rfl) ?_
   refine Zw rfl (q_move rfl) ?_
   refine Zw rfl (q_gtr rfl rfl) ?_
   refine Zw rfl (q_move rfl) ?_
   refine VD.split_dec 22 rfl (fun h22 => ?_) (fun h22 => ?_)
   ·
    replace hS := it_t h22 hS
    refine Zi rfl (q_field gfa93_0 rfl) ?_
    refine Zi rfl (q_field gfa61_2 rfl) ?_
    refine Zi rfl (q_fe gone52 rfl rfl) ?_
    refine Zi rfl (q_move rfl) ?_
    obtain ⟨b27, hS⟩ := gd_s hS
    refine Zi rfl (q_sub rfl rfl b27) ?_
    obtain ⟨z28_8, nz28_8, hz28_8, hS⟩ := at_s hS
    refine Zi rfl (q_ixm (s := s_0.now_refs) Tryz.underlying52 gsz216 rfl rfl nz28_8 (lt_of_get nz28_8 hz28_8)) ?_
    refine Zi rfl (q_field gfa216_0 rfl) ?_
    refine Zi rfl (q_elf (s := s_0.now_refs) gone9 rfl hz28_8 rfl) ?_
    refine Zi rfl (q_field gfa216_0 rfl) ?_
    refine Zi rfl (q_fe gone9 rfl rfl) ?_
    obtain ⟨y33_9, ey33_9, hS⟩ := bd_s hS
    refine Zi rfl (q_call (cmp_Compare_string_ct z28_8.name z12_3.name ey33_9) rfl (fun _ _ => rfl)) ?_
    refine Zi rfl (q_geq rfl rfl) ?_
    refine Zw rfl (q_pick_t rfl rfl) ?_
    refine Zw rfl (q_assign rfl) ?_
    refine VD.mt (decide (0 ≤ y33_9)) [1, 4, 7, 8, 9, 19] (fun _ _ h => h) hS rfl
   replace hS := it_f h22 hS
   refine Zd ?_
   refine Zd ?_
   refine Zd ?_
   refine Zd ?_
   refine Zd ?_
   refine Zd ?_
   refine Zd ?_
   refine Zd ?_
   refine Zd ?_
   refine Zd ?_
   refine Zd ?_
   refine Zd ?_
   refine Zw rfl (q_pick_f rfl rfl) ?_
   refine Zw rfl (q_assign rfl) ?_
   refine VD.mt false [1, 4, 7, 8, 9, 19] (fun _ _ h => h) hS rfl
  clear hS
  rintro x19_6 hS
  refine Zcb hS (fun h19 hS => ?_) (fun h19 hS => ?_)
  ·
   refine Zq ?_
   cases hS
  refine Zq (Zr ?_)
  refine Zu (q_fes gagg93 rfl rfl) ?_
  refine Zu (q_field gfa216_1 rfl) ?_
  refine Zu (q_fe gone3 rfl rfl) ?_
  obtain ⟨y40_10, ey40_10, hS⟩ := bd_s hS
  refine Zu (q_call (state_has_ct s_0 z12_3.commit ey40_10) rfl (fun _ _ => rfl)) ?_
  refine Zu (q_not rfl) ?_
  refine Zy ?_
  refine VC.keep (ρ' := [(1, ptr b1_1 0), (7, s_0.now_refs.val), (8, i64 (s_0.now_refs.l.length : Int)), (9, i64 x9_2), (36, .bool (!y40_10))]) [1, 7, 8, 9, 36] rfl ?_
  refine Zcb hS (fun h36 hS => ?_) (fun h36 hS => ?_)
  ·
   refine Zq ?_
   cases hS
  refine Zk ?_
  refine Zr ?_
  obtain ⟨b42, hS⟩ := gd_s hS
  refine Zu (q_add rfl rfl b42) ?_
  refine Zm ?_
  refine VL.rnd (x9_2 + 1) [1, 7, 8, 9] (fun _ _ h => h) (go2 hS hK1) rfl
 replace hS := up2 hS hK1
 refine Zx ?_
 refine Zq (Zr ?_)
 refine Zy ?_
 cases hS
 exact Ze
theorem state_number_ct (e_0 : Int) {r : Err} (hS : Sh.state_number e_0 = some r) :
 Ct Tryz.prog 99 [i64 e_0] Mo.tt (Ow.emp) (X := Er) (fun x => x.val) (fun x => r = x.pl) (fun x => x.ok) (fun x => Ow.emp) := by
 refine Zo Tryz.func99 Tryz.ntmps99 fun c => ?_
 unfold Sh.state_number at hS
 refine Zq (Zr ?_)
 refine Zy ?_
 refine Zq (Zq (Zr ?_))
 refine Zm ?_
 refine Zu (q_eql rfl rfl) ?_
 refine Zl ?_
 refine Zc hS (fun h4 hS => ?_) (fun h4 hS => ?_)
 ·
  refine Zq (Zr ?_)
  refine Zy ?_
  cases hS
  exact VC.ret (fin1 (.inr rfl) rfl rfl .nil rfl rfl (by (try dsimp only); exact InM.out) (fun _ _ => trivial))
 refine Zk ?_
 refine Zq ?_
 cases hS
theorem state_at_1_ct (r_0 : NamesRef) (a_1_b : Nat) (a_1 : Str) {r : Bool} (hS : Sh.state_at_1 r_0 a_1 = some r) :
 Ct Tryz.prog 229 [.agg #[str r_0.name, i64 r_0.commit], ptr a_1_b 0] (Cells a_1_b 0 [str a_1]) (Ow.emp) (X := Unit) (fun _ => .bool r) (fun _ => True) (fun _ => Mo.tt) (fun _ => Ow.emp) := by
 refine Zo Tryz.func229 Tryz.ntmps229 fun c => ?_
 unfold Sh.state_at_1 at hS
 refine Zq (Zr ?_)
 refine VL.box (cs := [str r_0.name, i64 r_0.commit]) rfl rfl (by decide) fun b2_1 => ?_
 refine Zy ?_
 refine Zq (Zr ?_)
 refine Zu (q_field gfa216_0 rfl) ?_
 refine Zu (q_fe gone9 rfl rfl) ?_
 refine Zu (q_fm gone9 rfl rfl) ?_
 refine Zy ?_
 cases hS
 exact Ze
theorem slices_IndexFunc_names_Ref_names_Ref_ct (s_0 : Sv NamesRef) (f_1_0_b : Nat) (f_1_0 : Str) {r : Int} (hS : Sh.slices_IndexFunc_names_Ref_names_Ref s_0.l f_1_0 = some r) :
 Ct Tryz.prog 228 [s_0.val, .func (.func 229) #[] #[ptr f_1_0_b 0]] (s_0.ok.and (Cells f_1_0_b 0 [str f_1_0])) (Ow.emp) (X := Unit) (fun _ => i64 r) (fun _ => True) (fun _ => Mo.tt) (fun _ => Ow.emp) := by
 refine Zo Tryz.func228 Tryz.ntmps228 fun c => ?_
 unfold Sh.slices_IndexFunc_names_Ref_names_Ref at hS
 refine Zq (Zr ?_)
 refine Zy ?_
 refine Zq (Zq (Zr ?_))
 refine Zm ?_
 refine Zu (q_ln (s := s_0) Tryz.underlying52 rfl) ?_
 refine Zy ?_
 refine Zb ?_
 refine VC.iter (S := Int) (fun (x8_1 : Int) => x8_1) (fun (x8_1 : Int) => [(0, s_0.val), (1, .func (.func 229) #[] #[ptr f_1_0_b 0]), (7, i64 (s_0.l.length : Int)), (8, i64 x8_1)]) (fun (x8_1 : Int) => Mo.tt) (fun (x8_1 : Int) => Ow.emp) 0 [0, 1, 7, 8] hS rfl ?_
 clear hS
 rintro x8_1 m1 y1 hS hK1
 refine Zq (Zr ?_)
 refine Zu (q_lss rfl rfl) ?_
 refine Zl ?_
 refine Zq ?_
 refine Zc hS (fun h9 hS => ?_) (fun h9 hS => ?_)
 ·
  refine Zk ?_
  refine Zq (Zb (Zq (Zr ?_)))
  refine Zy ?_
  refine Zq (Zr ?_)
  refine Zy ?_
  obtain ⟨z14_2, nz14_2, hz14_2, hS⟩ := at_s hS
  refine Zu (q_ixm (s := s_0) Tryz.underlying52 gsz216 rfl rfl nz14_2 (lt_of_get nz14_2 hz14_2)) ?_
  refine Zu (q_els (s := s_0) gagg216 rfl rfl hz14_2) ?_
  obtain ⟨y16_3, ey16_3, hS⟩ := bd_s hS
  refine Zu (q_callVC (vs := [.agg #[str z14_2.name, i64 z14_2.commit]]) (caps := [ptr f_1_0_b 0]) (state_at_1_ct z14_2 f_1_0_b f_1_0 ey16_3) rfl rfl (fun _ _ => rfl)) ?_
  refine Zl ?_
  refine VC.keep (ρ' := [(0, s_0.val), (1, .func (.func 229) #[] #[ptr f_1_0_b 0]), (7, i64 (s_0.l.length : Int)), (8, i64 x8_1), (5, i64 x8_1), (16, .bool y16_3)]) [0, 1, 7, 8, 5, 16] rfl ?_
  refine Zcb hS (fun h16 hS => ?_) (fun h16 hS => ?_)
  ·
   refine Zq (Zr ?_)
   refine Zy ?_
   replace hS := up2 hS hK1
   cases hS
   exact Ze
  refine Zk ?_
  refine Zr ?_
  obtain ⟨b18, hS⟩ := gd_s hS
  refine Zu (q_add rfl rfl b18) ?_
  refine Zm ?_
  refine VL.rnd (x8_1 + 1) [0, 1, 7, 8] (fun _ _ h => h) (go2 hS hK1) rfl
 replace hS := up2 hS hK1
 refine Zx ?_
 refine Zq (Zr ?_)
 refine Zy ?_
 cases hS
 exact Ze
theorem state_at_ct (l_0 : Sv NamesRef) (name_1 : Str) {r : Int} (hS : Sh.state_at l_0.l name_1 = some r) :
 Ct Tryz.prog 183 [l_0.val, str name_1] l_0.ok (Ow.emp) (X := Unit) (fun _ => i64 r) (fun _ => True) (fun _ => Mo.tt) (fun _ => Ow.emp) := by
 refine Zo Tryz.func183 Tryz.ntmps183 fun c => ?_
 unfold Sh.state_at at hS
 refine Zq (Zr ?_)
 refine VL.box (cs := [str name_1]) rfl rfl (by decide) fun b3_1 => ?_
 refine Zy ?_
 refine Zq (Zr ?_)
 refine Zm ?_
 refine Zu (q_mkfn rfl) ?_
 obtain ⟨y8_2, ey8_2, hS⟩ := bd_s hS
 refine Zu (q_callR (slices_IndexFunc_names_Ref_names_Ref_ct l_0 b3_1 name_1 ey8_2) rfl (fun _ _ => rfl)) ?_
 refine Zy ?_
 refine Zq (Zq (Zr ?_))
 refine Zm ?_
 refine Zu (q_lss rfl rfl) ?_
 refine Zl ?_
 refine Zc hS (fun h10 hS => ?_) (fun h10 hS => ?_)
 ·
  refine Zq (Zr ?_)
  refine Zy ?_
  cases hS
  exact Ze
 refine Zk ?_
 refine Zq ?_
 cases hS
theorem state_head_ct (s_0 : StateState) {r : Int} (hS : Sh.state_head s_0.pl = some r) :
 Ct Tryz.prog 101 [.agg (zStateState s_0).toArray] (s_0.now_work.ok.and (s_0.now_index.ok.and (s_0.now_refs.ok.and (s_0.now_seq_doing.ok.and (s_0.now_seq_todo.ok.and (s_0.now_seq_index.ok.and (s_0.now_seq_work.ok.and (s_0.now_stash.ok.and (s_0.commits.ok.and (s_0.log_back.ok.and s_0.log_forth.ok)))))))))) (Ow.emp) (X := Unit) (fun _ => i64 r) (fun _ => True) (fun _ => Mo.tt) (fun _ => Ow.emp) := by
 refine Zo Tryz.func101 Tryz.ntmps101 fun c => ?_
 unfold Sh.state_head at hS
 refine Zq (Zr ?_)
 refine VL.box (cs := (zStateState s_0)) rfl rfl (by decide) fun b1_1 => ?_
 refine Zy ?_
 refine Zq (Zr ?_)
 refine Zu (q_field gfa93_0 rfl) ?_
 refine Zu (q_field gfa61_3 rfl) ?_
 refine Zu (q_fep (j := 3) (n := 2) gagg54 rfl rfl rfl) ?_
 refine VL.alloc (cs := [str [], i64 0]) (by kernel_rfl) (by decide) fun b3_2 => ?_
 refine Zv (vc := [str s_0.now_head_branch, i64 s_0.now_head_commit]) (cs' := [str s_0.now_head_branch, i64 s_0.now_head_commit]) rfl gsz54 ?_
 refine Zl ?_
 refine Zq (Zb ?_)
 refine VC.cutJ (S := Bool) (fun (x7_3 : Bool) => x7_3) (fun (x7_3 : Bool) => [(1, ptr b1_1 0), (3, ptr b3_2 0), (7, .bool x7_3)]) (fun (x7_3 : Bool) => Mo.tt) (fun (x7_3 : Bool) => Ow.star (Blk b3_2 [str s_0.now_head_branch, i64 s_0.now_head_commit] 54) (Ow.star (Blk b1_1 (zStateState s_0) 93) (Ow.emp))) hS ?_ ?_
 ·
  clear hS
  intro k4 hS
  refine Zr ?_
  refine Zu (q_field gfa54_0 rfl) ?_
  refine Zu (q_fe gone9 rfl rfl) ?_
  refine Zy ?_
  refine Zsp 11 hS (fun h11 hS => ?_) (fun h11 hS => ?_)
  ·
   refine Zh (q_fes gagg93 rfl rfl) ?_
   refine Zh (q_field gfa54_1 rfl) ?_
   refine Zh (q_fe gone3 rfl rfl) ?_
   obtain ⟨y15_5, ey15_5, hS⟩ := bd_s hS
   refine Zh (q_call (state_has_ct s_0 s_0.now_head_commit ey15_5) rfl (fun _ _ => rfl)) ?_
   refine Zh (q_not rfl) ?_
   refine Zy ?_
   refine VL.mt (!y15_5) [1, 3, 7] (fun _ _ h => h) hS rfl
  refine VL.runs 7 [(7, some false)] (by kernel_rfl) ?_
  refine VL.mt false [1, 3, 7] (fun _ _ h => h) hS rfl
 clear hS
 rintro x7_3 hS
 refine Zcb hS (fun h7 hS => ?_) (fun h7 hS => ?_)
 ·
  refine Zq ?_
  cases hS
 refine Zq (Zr ?_)
 refine Zu (q_field gfa54_0 rfl) ?_
 refine Zu (q_fe gone9 rfl rfl) ?_
 refine Zy ?_
 refine Zc hS (fun h18 hS => ?_) (fun h18 hS => ?_)
 ·
  refine Zq ?_
  cases hS
 refine Zq (Zr ?_)
 refine Zu (q_field gfa54_0 rfl) ?_
 refine Zu (q_fe gone9 rfl rfl) ?_
 obtain ⟨y25_6, ey25_6, hS⟩ := bd_s hS
 refine Zu (q_call (names_Good_ct s_0.now_head_branch ey25_6) rfl (fun _ _ => rfl)) ?_
 refine Zu (q_not rfl) ?_
 refine Zy ?_
 refine VC.keep (ρ' := [(1, ptr b1_1 0), (3, ptr b3_2 0), (22, .bool (!y25_6))]) [1, 3, 22] rfl ?_
 refine Zcb hS (fun h22 hS => ?_) (fun h22 hS => ?_)
 ·
  refine Zq ?_
  cases hS
 refine Zq ?_
 refine VC.draw ((List.range 10).map fun k => (k, true)) mixed (by kernel_rfl) (by kernel_rfl) (by kernel_rfl) ?_
 refine Zw rfl (q_field gfa54_1 rfl) ?_
 refine Zw rfl (q_fe gone3 rfl rfl) ?_
 refine Zw rfl (q_field gfa93_0 rfl) ?_
 refine Zw rfl (q_field gfa61_2 rfl) ?_
 refine Zw rfl (q_fe gone52 rfl rfl) ?_
 refine Zw rfl (q_field gfa54_0 rfl) ?_
 refine Zw rfl (q_fe gone9 rfl rfl) ?_
 obtain ⟨y35_7, ey35_7, hS⟩ := bd_s hS
 refine Zw rfl (q_call (state_at_ct s_0.now_refs s_0.now_head_branch ey35_7) rfl (fun _ _ => rfl)) ?_
 refine Zw rfl (q_neq rfl rfl) ?_
 refine Zw rfl (q_assign rfl) ?_
 refine VD.to (fun _ _ h => h) ?_
 refine VC.keep (ρ' := [(27, .bool (!decide (s_0.now_head_commit = y35_7)))]) [27] rfl ?_
 refine Zcn hS (fun h27 hS => ?_) (fun h27 hS => ?_)
 ·
  refine Zq ?_
  cases hS
 refine Zk ?_
 refine Zq (Zr ?_)
 refine Zy ?_
 cases hS
 exact Ze
theorem slices_Clone_int_int_ct (s_0 : Sv Int) {r : List Int} (hS : Sh.slices_Clone_int_int s_0.l = some r) :
 Ct Tryz.prog 89 [s_0.val] s_0.ok (Ow.emp) (X := Sv Int) (fun x => x.val) (fun x => r = x.l) (fun x => Mo.tt) (fun x => Sv.own x 3) := by
 refine Zo Tryz.func89 Tryz.ntmps89 fun c => ?_
 unfold Sh.slices_Clone_int_int at hS
 refine Zq (Zr ?_)
 refine Zy ?_
 refine Zq (Zq (Zr ?_))
 refine Zm ?_
 refine Zu (q_slnil (s := s_0) Tryz.underlying32 rfl) ?_
 refine Zl ?_
 refine VC.slnil (s := s_0) rfl (fun h4 => ?_) ?_
 ·
  have hS : (some []) = some r := by
    simp [lt, gd, h4] at hS ⊢
    try exact hS
  refine Zq (Zr ?_)
  refine Zy ?_
  refine VC.nilO (⟨none, 0, []⟩ : Sv Int) 3 ⟨rfl, rfl⟩ ?_
  cases hS
  exact VC.ret (fin1 (.inr rfl) rfl rfl ⟨none, 0, []⟩ rfl rfl (by (try dsimp only); exact InM.out) (by (try dsimp only); exact EntO.out))
 refine Zk ?_
 refine Zq (Zr ?_)
 refine VL.lit0 (α := Int) Tryz.underlying32 ghas3 (by decide) (fun s5_1 hs5_1 hcs5_1 => ?_)
 refine VL.nilO s5_1 3 ⟨hcs5_1, hs5_1⟩ ?_
 replace hS := lt_to hs5_1 hS
 refine Zm ?_
 obtain ⟨b7, hS⟩ := gd_s hS
 refine VL.app (s := s5_1) (r := s_0) Tryz.underlying32 gapp3 (by decide) rfl Fo.out (ap1 b7) (ap2 b7 (by decide)) (by decide) (fun s7_3 hs7_3 => ?_)
 replace hS := lt_to hs7_3 hS
 refine Zy ?_
 cases hS
 exact VC.ret (fin1 (.inr rfl) rfl rfl s7_3 rfl rfl (by (try dsimp only); exact InM.out) (by (try dsimp only); exact EntO.out))
theorem slices_Clip_graph_Graph_int_ct (s_0 : Sv (Sv Int)) {r : List (List Int)} (hS : Sh.slices_Clip_graph_Graph_int (s_0.l.map Sv.l) = some r) :
 Ct Tryz.prog 90 [s_0.val] s_0.ok (Ow.emp) (X := Sv (Sv Int)) (fun x => x.val) (fun x => r = (x.l.map Sv.l)) (fun x => x.ok) (fun x => Ow.emp) := by
 refine Zo Tryz.func90 Tryz.ntmps90 fun c => ?_
 unfold Sh.slices_Clip_graph_Graph_int at hS
 refine Zq (Zr ?_)
 refine Zy ?_
 refine Zq (Zr ?_)
 refine Zy ?_
 refine Zu (q_lnm Sv.l (s := s_0) Tryz.underlying107 rfl) ?_
 refine Zm ?_
 refine Zu (q_lnm Sv.l (s := s_0) Tryz.underlying107 rfl) ?_
 obtain ⟨b8, hS⟩ := gd_s hS
 refine VL.stom Tryz.underlying107 gsz32 rfl rfl rfl b8.1 (len_m b8.2) (by decide) fun s8_1 hs8_1 => ?_
 replace hS := lt_to ((congrArg (List.map Sv.l) hs8_1).trans List.map_take) hS
 refine Zy ?_
 cases hS
 exact VC.ret (fin1 (.inr rfl) rfl rfl s8_1 rfl rfl (by (try dsimp only); exact InM.out) (fun _ _ => trivial))
theorem state_Graph_ct (s_0 : StateState) {r : List (List Int)} (hS : Sh.state_Graph s_0.pl = some r) :
 Ct Tryz.prog 35 [.agg (zStateState s_0).toArray] (s_0.now_work.ok.and (s_0.now_index.ok.and (s_0.now_refs.ok.and (s_0.now_seq_doing.ok.and (s_0.now_seq_todo.ok.and (s_0.now_seq_index.ok.and (s_0.now_seq_work.ok.and (s_0.now_stash.ok.and (s_0.commits.ok.and (s_0.log_back.ok.and s_0.log_forth.ok)))))))))) (Ow.emp) (X := Sv (Sv Int)) (fun x => x.val) (fun x => r = (x.l.map Sv.l)) (fun x => x.ok) (fun x => Ow.emp) := by
 refine Zo Tryz.func35 Tryz.ntmps35 fun c => ?_
 unfold Sh.state_Graph at hS
 refine Zq (Zr ?_)
 refine VL.box (cs := (zStateState s_0)) rfl rfl (by decide) fun b1_1 => ?_
 refine Zy ?_
 refine Zq (Zr ?_)
 refine Zy ?_
 refine Zq (Zq (Zr ?_))
 refine Zu (q_field gfa93_1 rfl) ?_
 refine Zu (q_fe gone68 rfl rfl) ?_
 refine Zu (q_lnm StateCommit.pl (s := s_0.commits) Tryz.underlying68 rfl) ?_
 refine Zy ?_
 refine Zb ?_
 refine VC.nilO (⟨none, 0, []⟩ : Sv (Sv Int)) 32 ⟨rfl, rfl⟩ ?_
 refine VC.maNil (s := (⟨none, 0, []⟩ : Sv (Sv Int))) rfl ?_
 refine VC.iter (S := Sv (Sv Int) × Int) (fun sg => ((sg.1.l.map Sv.l), sg.2)) (fun sg => [(3, sg.1.val), (7, s_0.commits.val), (8, i64 ((s_0.commits.l.map StateCommit.pl).length : Int)), (9, i64 sg.2)]) (fun sg => (MAl sg.1.l)) (fun sg => Ow.star (Blk b1_1 (zStateState s_0) 93) (Ow.star (Sv.own sg.1 32) (Ow.emp))) (⟨none, 0, []⟩, 0) [3, 7, 8, 9] hS rfl ?_
 clear hS
 rintro ⟨out3_2, x9_3⟩ m1 y1 hS hK1
 refine Zq (Zr ?_)
 refine Zu (q_lss rfl rfl) ?_
 refine Zl ?_
 refine Zq ?_
 refine Zc hS (fun h10 hS => ?_) (fun h10 hS => ?_)
 ·
  refine Zk ?_
  refine Zq (Zb (Zq (Zr ?_)))
  obtain ⟨z11_4, nz11_4, hz11_4, hS⟩ := atm_s hS
  refine VL.deep z11_4.m hz11_4 (fun _ q => q) ?_
  refine Zu (q_ixm (s := s_0.commits) Tryz.underlying68 gsz110 rfl rfl nz11_4 (lt_of_get nz11_4 hz11_4)) ?_
  refine Zu (q_els (s := s_0.commits) gagg110 rfl rfl hz11_4) ?_
  refine VL.alloc (cs := [.slice none 0 0, .slice none 0 0, i64 0, str []]) (by kernel_rfl) (by decide) fun b5_5 => ?_
  refine Zv (vc := [z11_4.tree.val, z11_4.parents.val, i64 z11_4.time, str z11_4.text]) (cs' := [z11_4.tree.val, z11_4.parents.val, i64 z11_4.time, str z11_4.text]) rfl gsz110 ?_
  refine Zl ?_
  refine Zr ?_
  refine Zm ?_
  refine Zu (q_field gfa110_1 rfl) ?_
  refine Zu (q_fe gone32 rfl rfl) ?_
  obtain ⟨y16_6, ey16_6, hS⟩ := bd_s hS
  refine VL.callO (slices_Clone_int_int_ct z11_4.parents ey16_6) rfl (by decide) ?_
  rintro q16_6_0 rfl
  try dsimp only
  refine VL.shut q16_6_0 3 (fun _ _ _ _ => trivial) ?_
  obtain ⟨y17_7, ey17_7, hS⟩ := bd_s hS
  refine VL.callF (slices_Clip_int_int_ct q16_6_0 ey17_7) rfl (by decide) ?_
  rintro q17_7_0 rfl
  try dsimp only
  refine VL.lit (α := Sv Int) (xs := [.tmp 17]) (vs := [q17_7_0.val]) [q17_7_0] Tryz.underlying107 glit32 (by decide) rfl rfl rfl rfl (by decide) (fun h m => List.forall_mem_cons.2 ⟨InM.out (X := q17_7_0.ok) h m, fun _ h => by cases h⟩) (by decide) (fun s18_8 hs18_8 => ?_) (by decide)
  replace hS := lt_to (congrArg (List.map Sv.l) hs18_8) hS
  obtain ⟨b19, hS⟩ := gd_s hS
  refine VL.app (s := out3_2) (r := s18_8) Tryz.underlying107 gapp32 (by decide) rfl Fo.out (ap1 (apm b19)) (ap2 (apm b19) (by decide)) (by decide) (fun s19_10 hs19_10 => ?_)
  replace hS := lt_to ((congrArg (List.map Sv.l) hs19_10).trans List.map_append) hS
  refine VL.maApp hs19_10 ?_
  refine Zy ?_
  refine VC.keep (ρ' := [(3, s19_10.val), (7, s_0.commits.val), (8, i64 ((s_0.commits.l.map StateCommit.pl).length : Int)), (9, i64 x9_3)]) [3, 7, 8, 9] rfl ?_
  refine Zr ?_
  obtain ⟨b20, hS⟩ := gd_s hS
  refine Zu (q_add rfl rfl b20) ?_
  refine Zm ?_
  refine VL.rnd (s19_10, (x9_3 + 1)) [3, 7, 8, 9] (fun _ _ h => h) (go2 hS hK1) rfl
 replace hS := up2 hS hK1
 refine Zx ?_
 refine Zq (Zr ?_)
 refine Zm ?_
 refine VL.shut out3_2 32 (fun h m => InM.out (X := MAl out3_2.l) h m) ?_
 obtain ⟨y22_12, ey22_12, hS⟩ := bd_s hS
 refine VL.callF (slices_Clip_graph_Graph_int_ct out3_2 ey22_12) rfl (by decide) ?_
 rintro q22_12_0 rfl
 try dsimp only
 refine Zy ?_
 cases hS
 exact VC.ret (fin1 (.inr rfl) rfl rfl q22_12_0 rfl rfl (by (try dsimp only); exact InM.out) (fun _ _ => trivial))
theorem graph_Graph_Check_ct (g_0 : Sv (Sv Int)) {r : Int} (hS : Sh.graph_Graph_Check (g_0.l.map Sv.l) = some r) :
 Ct Tryz.prog 184 [g_0.val] g_0.ok (Ow.emp) (X := Unit) (fun _ => i64 r) (fun _ => True) (fun _ => Mo.tt) (fun _ => Ow.emp) := by
 refine Zo Tryz.func184 Tryz.ntmps184 fun c => ?_
 unfold Sh.graph_Graph_Check at hS
 refine Zq (Zr ?_)
 refine Zy ?_
 refine Zq (Zq (Zr ?_))
 refine Zm ?_
 refine Zu (q_lnm Sv.l (s := g_0) Tryz.underlying107 rfl) ?_
 refine Zu (q_gtr rfl rfl) ?_
 refine Zl ?_
 refine Zc hS (fun h8 hS => ?_) (fun h8 hS => ?_)
 ·
  refine Zq ?_
  cases hS
 refine Zk ?_
 refine Zq (Zq (Zr ?_))
 refine Zm ?_
 refine Zu (q_lnm Sv.l (s := g_0) Tryz.underlying107 rfl) ?_
 refine Zy ?_
 refine Zb ?_
 refine VC.iter (S := Unit) (fun (_ : Unit) => ()) (fun (_ : Unit) => [(9, g_0.val), (10, i64 ((g_0.l.map Sv.l).length : Int)), (11, i64 0)]) (fun (_ : Unit) => Mo.tt) (fun (_ : Unit) => Ow.emp) () [9, 10, 11] hS rfl ?_
 clear hS
 rintro _ m1 y1 hS hK1
 refine Zq (Zr ?_)
 refine Zu (q_lss rfl rfl) ?_
 refine Zl ?_
 refine Zq ?_
 refine Zc hS (fun h12 hS => ?_) (fun h12 hS => ?_)
 ·
  refine Zk ?_
  refine Zq (Zb (Zq (Zr ?_)))
  refine Zm ?_
  obtain ⟨z14_1, nz14_1, hz14_1, hS⟩ := atm_s hS
  refine VL.deep z14_1.ok hz14_1 (fun _ q => q) ?_
  refine Zu (q_ixm (s := g_0) Tryz.underlying107 gsz32 rfl rfl nz14_1 (lt_of_get nz14_1 hz14_1)) ?_
  refine Zu (q_el (s := g_0) gone32 rfl hz14_1 rfl) ?_
  refine Zy ?_
  refine Zq ?_
  cases hS
 replace hS := up2 hS hK1
 refine Zx ?_
 refine Zq (Zr ?_)
 refine Zy ?_
 cases hS
 exact Ze
theorem state_commits_ct (s_0 : StateState) {r : Err} (hS : Sh.state_commits s_0.pl = some r) :
 Ct Tryz.prog 102 [.agg (zStateState s_0).toArray] (s_0.now_work.ok.and (s_0.now_index.ok.and (s_0.now_refs.ok.and (s_0.now_seq_doing.ok.and (s_0.now_seq_todo.ok.and (s_0.now_seq_index.ok.and (s_0.now_seq_work.ok.and (s_0.now_stash.ok.and (s_0.commits.ok.and (s_0.log_back.ok.and s_0.log_forth.ok)))))))))) (Ow.emp) (X := Er) (fun x => x.val) (fun x => r = x.pl) (fun x => x.ok) (fun x => Ow.emp) := by
 refine Zo Tryz.func102 Tryz.ntmps102 fun c => ?_
 unfold Sh.state_commits at hS
 refine Zq (Zr ?_)
 refine VL.box (cs := (zStateState s_0)) rfl rfl (by decide) fun b1_1 => ?_
 refine Zy ?_
 refine Zq (Zq (Zr ?_))
 refine Zu (q_fes gagg93 rfl rfl) ?_
 obtain ⟨y8_2, ey8_2, hS⟩ := bd_s hS
 refine VL.callF (state_Graph_ct s_0 ey8_2) rfl (by decide) ?_
 rintro q8_2_0 rfl
 try dsimp only
 obtain ⟨y9_3, ey9_3, hS⟩ := bd_s hS
 refine Zu (q_call (graph_Graph_Check_ct q8_2_0 ey9_3) rfl (fun _ _ => rfl)) ?_
 refine Zy ?_
 refine Zq (Zr ?_)
 refine Zm ?_
 refine Zu (q_neq rfl rfl) ?_
 refine Zl ?_
 refine Zcn hS (fun h11 hS => ?_) (fun h11 hS => ?_)
 ·
  refine Zq ?_
  cases hS
 refine Zk ?_
 refine Zq (Zq (Zr ?_))
 refine Zu (q_field gfa93_1 rfl) ?_
 refine Zu (q_fe gone68 rfl rfl) ?_
 refine Zu (q_lnm StateCommit.pl (s := s_0.commits) Tryz.underlying68 rfl) ?_
 refine Zy ?_
 refine VC.keep (ρ' := [(15, s_0.commits.val), (16, i64 ((s_0.commits.l.map StateCommit.pl).length : Int)), (17, i64 0)]) [15, 16, 17] rfl ?_
 refine Zb ?_
 refine VC.iter (S := Unit) (fun (_ : Unit) => ()) (fun (_ : Unit) => [(15, s_0.commits.val), (16, i64 ((s_0.commits.l.map StateCommit.pl).length : Int)), (17, i64 0)]) (fun (_ : Unit) => Mo.tt) (fun (_ : Unit) => Ow.star (Blk b1_1 (zStateState s_0) 93) (Ow.emp)) () [15, 16, 17] hS rfl ?_
 clear hS
 rintro _ m1 y1 hS hK1
 refine Zq (Zr ?_)
 refine Zu (q_lss rfl rfl) ?_
 refine Zl ?_
 refine Zq ?_
 refine Zc hS (fun h18 hS => ?_) (fun h18 hS => ?_)
 ·
  refine Zk ?_
  refine Zq (Zb (Zq (Zr ?_)))
  obtain ⟨z19_4, nz19_4, hz19_4, hS⟩ := atm_s hS
  refine VL.deep z19_4.m hz19_4 (fun _ q => q) ?_
  refine Zu (q_ixm (s := s_0.commits) Tryz.underlying68 gsz110 rfl rfl nz19_4 (lt_of_get nz19_4 hz19_4)) ?_
  refine Zu (q_els (s := s_0.commits) gagg110 rfl rfl hz19_4) ?_
  refine VL.alloc (cs := [.slice none 0 0, .slice none 0 0, i64 0, str []]) (by kernel_rfl) (by decide) fun b5_5 => ?_
  refine Zv (vc := [z19_4.tree.val, z19_4.parents.val, i64 z19_4.time, str z19_4.text]) (cs' := [z19_4.tree.val, z19_4.parents.val, i64 z19_4.time, str z19_4.text]) rfl gsz110 ?_
  refine Zl ?_
  refine Zq (Zq ?_)
  cases hS
 replace hS := up2 hS hK1
 refine Zx ?_
 refine Zq (Zr ?_)
 refine Zy ?_
 cases hS
 exact VC.ret (fin1 (.inr rfl) rfl rfl .nil rfl rfl (by (try dsimp only); exact InM.out) (fun _ _ => trivial))
theorem state_stash_ct (s_0 : StateState) {r : Err} (hS : Sh.state_stash s_0.pl = some r) :
 Ct Tryz.prog 103 [.agg (zStateState s_0).toArray] (s_0.now_work.ok.and (s_0.now_index.ok.and (s_0.now_refs.ok.and (s_0.now_seq_doing.ok.and (s_0.now_seq_todo.ok.and (s_0.now_seq_index.ok.and (s_0.now_seq_work.ok.and (s_0.now_stash.ok.and (s_0.commits.ok.and (s_0.log_back.ok.and s_0.log_forth.ok)))))))))) (Ow.emp) (X := Er) (fun x => x.val) (fun x => r = x.pl) (fun x => x.ok) (fun x => Ow.emp) := by
 refine Zo Tryz.func103 Tryz.ntmps103 fun c => ?_
 unfold Sh.state_stash at hS
 refine Zq (Zr ?_)
 refine VL.box (cs := (zStateState s_0)) rfl rfl (by decide) fun b1_1 => ?_
 refine Zy ?_
 refine Zq (Zq (Zr ?_))
 refine Zu (q_field gfa93_0 rfl) ?_
 refine Zu (q_field gfa61_5 rfl) ?_
 refine Zu (q_fe gone59 rfl rfl) ?_
 refine Zu (q_lnm ShelfShelf.pl (s := s_0.now_stash) Tryz.underlying59 rfl) ?_
 refine Zy ?_
 refine Zb ?_
 refine VC.iter (S := Unit) (fun (_ : Unit) => ()) (fun (_ : Unit) => [(1, ptr b1_1 0), (9, s_0.now_stash.val), (10, i64 ((s_0.now_stash.l.map ShelfShelf.pl).length : Int)), (11, i64 0)]) (fun (_ : Unit) => Mo.tt) (fun (_ : Unit) => Ow.star (Blk b1_1 (zStateState s_0) 93) (Ow.emp)) () [1, 9, 10, 11] hS rfl ?_
 clear hS
 rintro _ m1 y1 hS hK1
 refine Zq (Zr ?_)
 refine Zu (q_lss rfl rfl) ?_
 refine Zl ?_
 refine Zq ?_
 refine Zc hS (fun h12 hS => ?_) (fun h12 hS => ?_)
 ·
  refine Zk ?_
  refine Zq (Zb (Zq (Zr ?_)))
  obtain ⟨z13_2, nz13_2, hz13_2, hS⟩ := atm_s hS
  refine VL.deep z13_2.m hz13_2 (fun _ q => q) ?_
  refine Zu (q_ixm (s := s_0.now_stash) Tryz.underlying59 gsz155 rfl rfl nz13_2 (lt_of_get nz13_2 hz13_2)) ?_
  refine Zu (q_els (s := s_0.now_stash) gagg155 rfl rfl hz13_2) ?_
  refine VL.alloc (cs := [i64 0, .slice none 0 0, .slice none 0 0, str []]) (by kernel_rfl) (by decide) fun b4_3 => ?_
  refine Zv (vc := [i64 z13_2.base, z13_2.index.val, z13_2.work.val, str z13_2.text]) (cs' := [i64 z13_2.base, z13_2.index.val, z13_2.work.val, str z13_2.text]) rfl gsz155 ?_
  refine Zl ?_
  refine Zq (Zq ?_)
  cases hS
 replace hS := up2 hS hK1
 refine Zx ?_
 refine Zq (Zr ?_)
 refine Zy ?_
 cases hS
 exact VC.ret (fin1 (.inr rfl) rfl rfl .nil rfl rfl (by (try dsimp only); exact InM.out) (fun _ _ => trivial))
theorem lit_er [ErNo] (l : List Er) : (l.map Er.val).map (fun v => v.cells.toList) = l.map Dat.enc := by
 rw [List.map_map]
 exact List.map_congr_left fun e _ => by cases e <;> rfl
theorem state_Check_ct (s_0 : StateState) {r : Err} (hS : Sh.state_Check s_0.pl = some r) :
 Ct Tryz.prog 40 [.agg (zStateState s_0).toArray] (s_0.now_work.ok.and (s_0.now_index.ok.and (s_0.now_refs.ok.and (s_0.now_seq_doing.ok.and (s_0.now_seq_todo.ok.and (s_0.now_seq_index.ok.and (s_0.now_seq_work.ok.and (s_0.now_stash.ok.and (s_0.commits.ok.and (s_0.log_back.ok.and s_0.log_forth.ok)))))))))) (Ow.emp) (X := Er) (fun x => x.val) (fun x => r = x.pl) (fun x => x.ok) (fun x => Ow.emp) := by
 refine Zo Tryz.func40 Tryz.ntmps40 fun c => ?_
 unfold Sh.state_Check at hS
 refine Zq (Zr ?_)
 refine VL.box (cs := (zStateState s_0)) rfl rfl (by decide) fun b1_1 => ?_
 refine Zy ?_
 refine Zq (Zr ?_)
 refine Zy ?_
 refine Zq (Zq (Zr ?_))
 refine Zu (q_field gfa93_3 rfl) ?_
 refine Zu (q_fe gone3 rfl rfl) ?_
 refine Zu (q_lss rfl rfl) ?_
 refine Zl ?_
 refine Zc hS (fun h8 hS => ?_) (fun h8 hS => ?_)
 ·
  cases hS
 refine Zk ?_
 refine Zq (Zq ?_)
 refine VC.draw [(0, true), (1, true), (2, true), (4, true), (5, true), (6, true), (8, true), (11, true), (14, true), (16, true), (18, true), (22, true), (3, false), (7, false), (9, true), (10, false), (12, true), (13, false), (15, false), (17, false), (19, false), (20, false), (21, true)] mixed (by kernel_rfl) (by kernel_rfl) (by kernel_rfl) ?_
 refine Zw rfl (q_field gfa93_0 rfl) ?_
 refine Zw rfl (q_field gfa61_0 rfl) ?_
 refine Zw rfl (q_fe gone50 rfl rfl) ?_
 refine Zw rfl (q_field gfa93_0 rfl) ?_
 refine Zw rfl (q_field gfa61_1 rfl) ?_
 refine Zw rfl (q_fe gone51 rfl rfl) ?_
 refine Zw rfl (q_fes gagg93 rfl rfl) ?_
 refine Zw rfl (q_fes gagg93 rfl rfl) ?_
 refine Zw rfl (q_fes gagg93 rfl rfl) ?_
 refine Zw rfl (q_fes gagg93 rfl rfl) ?_
 refine Zw rfl (q_move rfl) ?_
 refine Zw rfl (q_move rfl) ?_
 refine VD.one rfl ?_
 obtain ⟨y12_2, ey12_2, hS⟩ := bd_s hS
 refine VL.callF (files_Row_Check_ct s_0.now_work ey12_2) rfl (by decide) ?_
 rintro q12_2_0 rfl
 try dsimp only
 refine VL.back (D' := [(16, .agg (zStateState s_0).toArray), (14, .agg (zStateState s_0).toArray), (11, .agg (zStateState s_0).toArray), (8, .agg (zStateState s_0).toArray), (6, s_0.now_index.val), (5, ptr b1_1 1), (4, ptr b1_1 0)]) (by kernel_rfl) (Pend.cons rfl (q_fes gagg93 rfl rfl) (Pend.cons rfl (q_fes gagg93 rfl rfl) (Pend.cons rfl (q_fes gagg93 rfl rfl) (Pend.cons rfl (q_fes gagg93 rfl rfl) (Pend.cons rfl (q_fe gone51 rfl rfl) (Pend.cons rfl (q_field gfa61_1 rfl) (Pend.cons rfl (q_field gfa93_0 rfl) (Pend.nil)))))))) ?_
 refine VD.one rfl ?_
 obtain ⟨y16_3, ey16_3, hS⟩ := bd_s hS
 refine VL.callF (index_Check_ct s_0.now_index ey16_3) rfl (by decide) ?_
 rintro q16_3_0 rfl
 try dsimp only
 refine VL.back (D' := [(16, .agg (zStateState s_0).toArray), (14, .agg (zStateState s_0).toArray), (11, .agg (zStateState s_0).toArray), (8, .agg (zStateState s_0).toArray)]) (by kernel_rfl) (Pend.cons rfl (q_fes gagg93 rfl rfl) (Pend.cons rfl (q_fes gagg93 rfl rfl) (Pend.cons rfl (q_fes gagg93 rfl rfl) (Pend.cons rfl (q_fes gagg93 rfl rfl) (Pend.nil))))) ?_
 obtain ⟨y18_4, ey18_4, hS⟩ := bd_s hS
 refine Zw rfl (q_call (state_refs_ct s_0 ey18_4) rfl (fun _ _ => rfl)) ?_
 refine VD.one rfl ?_
 obtain ⟨y19_5, ey19_5, hS⟩ := bd_s hS
 refine VL.callF (state_number_ct y18_4 ey19_5) rfl (by decide) ?_
 rintro q19_5_0 rfl
 try dsimp only
 refine VL.back (D' := [(16, .agg (zStateState s_0).toArray), (14, .agg (zStateState s_0).toArray), (11, .agg (zStateState s_0).toArray)]) (by kernel_rfl) (Pend.cons rfl (q_fes gagg93 rfl rfl) (Pend.cons rfl (q_fes gagg93 rfl rfl) (Pend.cons rfl (q_fes gagg93 rfl rfl) (Pend.nil)))) ?_
 obtain ⟨y21_6, ey21_6, hS⟩ := bd_s hS
 refine Zw rfl (q_call (state_head_ct s_0 ey21_6) rfl (fun _ _ => rfl)) ?_
 refine VD.one rfl ?_
 obtain ⟨y22_7, ey22_7, hS⟩ := bd_s hS
 refine VL.callF (state_number_ct y21_6 ey22_7) rfl (by decide) ?_
 rintro q22_7_0 rfl
 try dsimp only
 refine VL.back (D' := [(16, .agg (zStateState s_0).toArray), (14, .agg (zStateState s_0).toArray)]) (by kernel_rfl) (Pend.cons rfl (q_fes gagg93 rfl rfl) (Pend.cons rfl (q_fes gagg93 rfl rfl) (Pend.nil))) ?_
 refine VD.one rfl ?_
 obtain ⟨y24_8, ey24_8, hS⟩ := bd_s hS
 refine VL.callF (state_commits_ct s_0 ey24_8) rfl (by decide) ?_
 rintro q24_8_0 rfl
 try dsimp only
 refine VL.back (D' := [(16, .agg (zStateState s_0).toArray)]) (by kernel_rfl) (Pend.cons rfl (q_fes gagg93 rfl rfl) (Pend.nil)) ?_
 refine VD.one rfl ?_
 obtain ⟨y26_9, ey26_9, hS⟩ := bd_s hS
 refine VL.callF (state_stash_ct s_0 ey26_9) rfl (by decide) ?_
 rintro q26_9_0 rfl
 try dsimp only
 refine VL.back (D' := []) (by kernel_rfl) (Pend.nil) ?_
 refine VD.one rfl ?_
 obtain ⟨y28_10, ey28_10, hS⟩ := bd_s hS
 refine VL.callF (state_number_ct 0 ey28_10) rfl (by decide) ?_
 rintro q28_10_0 rfl
 try dsimp only
 refine VL.back (D' := []) (by kernel_rfl) (Pend.nil) ?_
 refine VD.one rfl ?_
 refine VL.lit (α := Er) (xs := [.tmp 12, .tmp 16, .tmp 19, .tmp 22, .tmp 24, .tmp 26, .tmp 28]) (vs := [q12_2_0.val, q16_3_0.val, q19_5_0.val, q22_7_0.val, q24_8_0.val, q26_9_0.val, q28_10_0.val]) [q12_2_0, q16_3_0, q19_5_0, q22_7_0, q24_8_0, q26_9_0, q28_10_0] Tryz.underlying200 glit26 (by decide) rfl rfl (lit_er [q12_2_0, q16_3_0, q19_5_0, q22_7_0, q24_8_0, q26_9_0, q28_10_0]) rfl (by decide) (fun h m => List.forall_mem_cons.2 ⟨InM.out (X := q12_2_0.ok) h m, List.forall_mem_cons.2 ⟨InM.out (X := q16_3_0.ok) h m, List.forall_mem_cons.2 ⟨InM.out (X := q19_5_0.ok) h m, List.forall_mem_cons.2 ⟨InM.out (X := q22_7_0.ok) h m, List.forall_mem_cons.2 ⟨InM.out (X := q24_8_0.ok) h m, List.forall_mem_cons.2 ⟨InM.out (X := q26_9_0.ok) h m, List.forall_mem_cons.2 ⟨InM.out (X := q28_10_0.ok) h m, fun _ h => by cases h⟩⟩⟩⟩⟩⟩⟩) (by decide) (fun s29_11 hs29_11 => ?_) (by decide)
 replace hS := lt_to (congrArg (List.map Er.pl) hs29_11) hS
 refine VL.back (D' := []) (by kernel_rfl) (Pend.nil) ?_
 refine Zw rfl (q_lnm Er.pl (s := s29_11) Tryz.underlying200 rfl) ?_
 refine VD.to (fun _ _ h => h) ?_
 refine VC.keep (ρ' := [(31, i64 0), (29, s29_11.val), (30, i64 ((s29_11.l.map Er.pl).length : Int))]) [31, 29, 30] rfl ?_
 refine Zb ?_
 refine VC.iter (S := Int) (fun (x31_13 : Int) => x31_13) (fun (x31_13 : Int) => [(29, s29_11.val), (30, i64 ((s29_11.l.map Er.pl).length : Int)), (31, i64 x31_13)]) (fun (x31_13 : Int) => Mo.tt) (fun (x31_13 : Int) => Ow.star (Blk b1_1 (zStateState s_0) 93) (Ow.emp)) 0 [29, 30, 31] hS rfl ?_
 clear hS
 rintro x31_13 m1 y1 hS hK1
 refine Zq (Zr ?_)
 refine Zu (q_lss rfl rfl) ?_
 refine Zl ?_
 refine Zq ?_
 refine Zc hS (fun h32 hS => ?_) (fun h32 hS => ?_)
 ·
  refine Zk ?_
  refine Zq (Zb (Zq (Zr ?_)))
  refine Zm ?_
  obtain ⟨z34_14, nz34_14, hz34_14, hS⟩ := atm_s hS
  refine VL.deep z34_14.ok hz34_14 (fun _ q => q) ?_
  refine Zu (q_ixm (s := s29_11) Tryz.underlying200 gsz26 rfl rfl nz34_14 (lt_of_get nz34_14 hz34_14)) ?_
  refine Zu (q_el (s := s29_11) gone26 rfl hz34_14 rfl) ?_
  refine Zy ?_
  refine Zq (Zr ?_)
  refine Zm ?_
  refine Zu (q_erne Tryz.underlying26 rfl) ?_
  refine Zl ?_
  refine Zcn hS (fun h37 hS => ?_) (fun h37 hS => ?_)
  ·
   refine Zq ?_
   cases hS
  refine Zk ?_
  refine VC.keep (ρ' := [(29, s29_11.val), (30, i64 ((s29_11.l.map Er.pl).length : Int)), (31, i64 x31_13)]) [29, 30, 31] rfl ?_
  refine Zr ?_
  obtain ⟨b43, hS⟩ := gd_s hS
  refine Zu (q_add rfl rfl b43) ?_
  refine Zm ?_
  refine VL.rnd (x31_13 + 1) [29, 30, 31] (fun _ _ h => h) (go2 hS hK1) rfl
 replace hS := up2 hS hK1
 refine Zx ?_
 refine Zq (Zr ?_)
 refine Zy ?_
 cases hS
 exact VC.ret (fin1 (.inr rfl) rfl rfl .nil rfl rfl (by (try dsimp only); exact InM.out) (fun _ _ => trivial))
theorem star_up {A B : Ow} (hB : ∀ {x y : Hp}, x.le y → B x → B y) {x z : Hp} (l : x.le z) (h : Ow.star A B x) : Ow.star A B z := by
 obtain ⟨x1, y1, d, rfl, h1, h2⟩ := h
 refine ⟨x1, fun i => if x1 i = none then z i else none, fun i => ?_, ?_, h1, hB ?_ h2⟩
 ·
  by_cases q : x1 i = none
  ·
   exact .inl q
  exact .inr (if_neg q)
 ·
  funext i
  cases q : x1 i with
  | none => simp [Hp.join, q]
  | some o =>
    have := l i o (by simp [Hp.join, q])
    simp [Hp.join, q, this]
 intro i o e
 have q : x1 i = none := by
   rcases d i with q | q
   · exact q
   · rw [q] at e; cases e
 show (if x1 i = none then z i else none) = some o
 rw [if_pos q]
 exact l i o (by simp [Hp.join, q, e])
theorem Bd.up {T e : TypeId} {b : Nat} {l : Str} {x z : Hp} (k : x.le z) (h : Bd T e b l x) : Bd T e b l z := by
 obtain ⟨p, s, h1, h2, h3, h4⟩ := h
 exact ⟨p, s, h1, h2, h3, star_up (fun k => Sv.own_up k) k h4⟩
instance (priority := 800) EntO.bdS (E : Ow) {F : Ow} (T e : TypeId) (b : Nat) (l : Str) [i : Fo E (Bd T e b l) F] : EntO E (Bd T e b l) := ⟨fun e' he => by
  obtain ⟨x, y, dxy, j, hx, hy⟩ := i.out e' he
  exact Bd.up (T := T) (e := e) (b := b) (l := l) (by rw [j]; exact Hp.le_join_left x y) hx⟩
theorem join_ct (s : Sv Str) (sep : Str) (hb : s.l.length ≤ 4294967296 ∧ (Go.S.joinS s.l sep).length ≤ 4294967296) : Ct Tryz.prog 112 [s.val, str sep] s.ok Ow.emp (X := Unit) (fun _ => str (Go.S.joinS s.l sep)) (fun _ => True) (fun _ => Mo.tt) (fun _ => Ow.emp) :=
  Ct.of_gr (entry_of Tryz.func112 rfl (by kernel_rfl)) fun w h m l => by
    by_cases hl : s.l = []
    · have := Tryz.strings_Join_none s.a s.c ⟨⟨sep⟩⟩ w
      have e1 : s.val = .slice s.a 0 s.c := by unfold Sv.val; rw [hl]; rfl
      rw [e1]
      exact this.mono fun e w' ⟨h1, h2⟩ => ⟨by rw [h1, hl]; rfl, h2 ▸ Gr.refl w⟩
    · obtain ⟨h1, _, h3, h4, _⟩ := m
      have ha := h3 hl
      have hx : (s.l.map fun z => (⟨⟨z⟩⟩ : ByteArray)).map (·.data.toList) = s.l := by rw [List.map_map]; exact (List.map_congr_left fun z _ => rfl).trans (List.map_id _)
      have hc : ∀ (j : Nat) x, (s.l.map fun z => (⟨⟨z⟩⟩ : ByteArray))[j]? = some x → w.cell? ⟨s.b, s.o + j, none⟩ = some (.string x) := fun j x hj => by
        rw [List.getElem?_map] at hj
        cases hz : s.l[j]? with
        | none => rw [hz] at hj; cases hj
        | some z =>
          rw [hz] at hj; cases hj
          have := h4 j z hz 0 (str z) rfl
          have hs : Dat.sz Str = 1 := rfl
          rw [hs, Nat.mul_one] at this
          exact cell_of_le l (by simpa using this)
      have hlt : s.b < w.heap.size := by
        have h0 : 0 < s.l.length := List.length_pos_iff.2 hl
        have := hc 0 ⟨⟨s.l[0]⟩⟩ (by simp [h0])
        rcases Nat.lt_or_ge s.b w.heap.size with q | q
        · exact q
        · simp [World.cell?, Array.getElem?_eq_none q] at this
      have := Tryz.strings_Join s.b s.o s.c (s.l.map fun z => ⟨⟨z⟩⟩) ⟨⟨sep⟩⟩ w hc hlt (by rw [List.length_map]; omega) (by rw [List.length_map]; exact h1) (by rw [hx]; have := hb.2; unfold Go.S.joinS at this; show (Lib.join s.l sep).length ≤ _; omega)
      rw [hx, List.length_map] at this
      have e1 : s.val = .slice (some ⟨s.b, s.o, none⟩) s.l.length s.c := by unfold Sv.val; rw [ha]
      rw [e1]
      exact this.mono fun e w' ⟨h1, h2⟩ => ⟨h1, Gr.of_below h2⟩
theorem state_Text_1_ct (l_0 : Sv Str) (a_1_b : Nat) (a_1 : Str) {r : Str} (hS : Sh.state_Text_1 l_0.l a_1 = some r) :
 Ct Tryz.prog 110 [l_0.val, ptr a_1_b 0] l_0.ok (Bd 212 5 a_1_b a_1) (X := Str) (fun x => .tuple #[]) (fun x => r = x) (fun x => Mo.tt) (fun x => Bd 212 5 a_1_b x) := by
 refine Zo Tryz.func110 Tryz.ntmps110 fun c => ?_
 unfold Sh.state_Text_1 at hS
 refine Zr ?_
 refine Zm ?_
 obtain ⟨b4, hS⟩ := gd_s hS
 obtain ⟨y4_1, ey4_1, hS⟩ := lt_s hS
 refine Zu (q_call (join_ct l_0 [32] b4) rfl (fun _ _ => congrArg str ey4_1)) ?_
 obtain ⟨b5, hS⟩ := gd_s hS
 obtain ⟨y5_2, ey5_2, hS⟩ := lt_s hS
 refine Zu (q_catE rfl rfl b5 ey5_2) ?_
 obtain ⟨b6, hS⟩ := gd_s hS
 refine VL.callO (writeString_ct a_1_b a_1 y5_2 b6) rfl (by decide) ?_
 rintro _ _
 obtain ⟨acc6_3, eacc6_3, hS⟩ := lt_s hS
 rw [eacc6_3]
 cases hS
 exact VL.nil (fin0 (.inl rfl) rfl _ rfl rfl (by (try dsimp only); exact InM.out) (by (try dsimp only); exact EntO.out))
theorem itoa_ct (n : Int) (b : Go.S.I64 n) : Ct Tryz.prog 113 [i64 n] Gl Ow.emp (X := Unit) (fun _ => str (Go.S.itoaS n)) (fun _ => True) (fun _ => Mo.tt) (fun _ => Ow.emp) :=
  Ct.of_gr (entry_of Tryz.func113 rfl (by kernel_rfl)) fun w h m l => (Tryz.strconv_Itoa n b.1 b.2 w (GBlk.var (by kernel_rfl) (InM.out (X := GBlk 2 _) h m) l)).mono fun e w' ⟨h1, k, os, h2⟩ => ⟨by rw [h1, itoaS_eq b], h2 ▸ Gr.grown w k os⟩
theorem state_Text_ct (s_0 : StateState) {r : Str} (hS : Sh.state_Text s_0.pl = some r) :
 Ct Tryz.prog 42 [.agg (zStateState s_0).toArray] (s_0.now_work.ok.and (s_0.now_index.ok.and (s_0.now_refs.ok.and (s_0.now_seq_doing.ok.and (s_0.now_seq_todo.ok.and (s_0.now_seq_index.ok.and (s_0.now_seq_work.ok.and (s_0.now_stash.ok.and (s_0.commits.ok.and (s_0.log_back.ok.and (s_0.log_forth.ok.and Gl))))))))))) (Ow.emp) (X := Unit) (fun _ => str r) (fun _ => True) (fun _ => Mo.tt) (fun _ => Ow.emp) := by
 refine Zo Tryz.func42 Tryz.ntmps42 fun c => ?_
 unfold Sh.state_Text at hS
 refine Zq (Zr ?_)
 refine VL.box (cs := (zStateState s_0)) rfl rfl (by decide) fun b1_1 => ?_
 refine Zy ?_
 refine Zq (Zr ?_)
 refine VL.alloc (cs := [.pointer none, .slice none 0 0]) (by kernel_rfl) (by decide) fun b3_2 => ?_
 refine VL.toBd 5 b3_2 ?_
 refine Zl ?_
 refine Zq (Zr ?_)
 refine Zu (q_mkfn rfl) ?_
 refine Zy ?_
 refine Zq (Zr ?_)
 refine Zy ?_
 refine Zq (Zq (Zr ?_))
 refine Zu (q_field gfa93_0 rfl) ?_
 refine Zu (q_field gfa61_3 rfl) ?_
 refine Zu (q_field gfa54_0 rfl) ?_
 refine Zu (q_fe gone9 rfl rfl) ?_
 refine Zu (q_sne rfl rfl) ?_
 refine Zl ?_
 refine VC.keep (ρ' := [(1, ptr b1_1 0), (3, ptr b3_2 0), (4, .func (.func 110) #[] #[ptr b3_2 0]), (5, .func (.func 113) #[] #[]), (23, .bool (!decide (s_0.now_head_branch = [])))]) [1, 3, 4, 5, 23] rfl ?_
 refine Zcn hS (fun h23 hS => ?_) (fun h23 hS => ?_)
 ·
  refine Zr ?_
  refine Zm ?_
  refine Zu (q_field gfa93_0 rfl) ?_
  refine Zu (q_field gfa61_3 rfl) ?_
  refine Zu (q_field gfa54_0 rfl) ?_
  refine Zu (q_fe gone9 rfl rfl) ?_
  refine VL.lit (α := Str) (xs := [.const (str [104, 101, 97, 100]), .tmp 28]) (vs := [str [104, 101, 97, 100], str s_0.now_head_branch]) [[104, 101, 97, 100], s_0.now_head_branch] Tryz.underlying89 glit9 (by decide) rfl rfl rfl rfl (by decide) (fun _ _ _ _ => trivial) (by decide) (fun s29_3 hs29_3 => ?_) (by decide)
  replace hS := lt_to hs29_3 hS
  obtain ⟨y30_5, ey30_5, hS⟩ := bd_s hS
  refine VL.callOV (vs := [s29_3.val]) (caps := [ptr b3_2 0]) (state_Text_1_ct s29_3 b3_2 [] ey30_5) rfl rfl (by decide) ?_
  rintro _ rfl
  try dsimp only
  refine Zl ?_
  refine VC.keep (ρ' := [(1, ptr b1_1 0), (3, ptr b3_2 0), (4, .func (.func 110) #[] #[ptr b3_2 0]), (5, .func (.func 113) #[] #[])]) [1, 3, 4, 5] rfl ?_
  refine Zq (Zq (Zr ?_))
  refine Zu (q_field gfa93_0 rfl) ?_
  refine Zu (q_field gfa61_2 rfl) ?_
  refine Zu (q_fe gone52 rfl rfl) ?_
  refine Zu (q_ln (s := s_0.now_refs) Tryz.underlying52 rfl) ?_
  refine Zy ?_
  refine Zb ?_
  refine VC.iter (S := Unit) (fun (_ : Unit) => ()) (fun (_ : Unit) => [(1, ptr b1_1 0), (3, ptr b3_2 0), (4, .func (.func 110) #[] #[ptr b3_2 0]), (5, .func (.func 113) #[] #[]), (43, s_0.now_refs.val), (44, i64 (s_0.now_refs.l.length : Int)), (45, i64 0)]) (fun (_ : Unit) => Mo.tt) (fun (_ : Unit) => Ow.star (Blk b1_1 (zStateState s_0) 93) (Ow.star (Bd 212 5 b3_2 y30_5) (Ow.emp))) () [1, 3, 4, 5, 43, 44, 45] hS rfl ?_
  clear hS
  rintro _ m1 y1 hS hK1
  refine Zq (Zr ?_)
  refine Zu (q_lss rfl rfl) ?_
  refine Zl ?_
  refine Zq ?_
  refine Zc hS (fun h46 hS => ?_) (fun h46 hS => ?_)
  ·
   refine Zk ?_
   refine Zq (Zb (Zq (Zr ?_)))
   obtain ⟨z47_6, nz47_6, hz47_6, hS⟩ := at_s hS
   refine Zu (q_ixm (s := s_0.now_refs) Tryz.underlying52 gsz216 rfl rfl nz47_6 (lt_of_get nz47_6 hz47_6)) ?_
   refine Zu (q_els (s := s_0.now_refs) gagg216 rfl rfl hz47_6) ?_
   refine VL.alloc (cs := [str [], i64 0]) (by kernel_rfl) (by decide) fun b7_7 => ?_
   refine Zv (vc := [str z47_6.name, i64 z47_6.commit]) (cs' := [str z47_6.name, i64 z47_6.commit]) rfl gsz216 ?_
   refine Zl ?_
   cases hS
  replace hS := up2 hS hK1
  refine Zx ?_
  refine Zq (Zq (Zr ?_))
  refine Zu (q_field gfa93_0 rfl) ?_
  refine Zu (q_field gfa61_4 rfl) ?_
  refine Zu (q_field gfa57_0 rfl) ?_
  refine Zu (q_fe gone9 rfl rfl) ?_
  refine Zu (q_sne rfl rfl) ?_
  refine Zl ?_
  refine VC.keep (ρ' := [(1, ptr b1_1 0), (3, ptr b3_2 0), (4, .func (.func 110) #[] #[ptr b3_2 0]), (5, .func (.func 113) #[] #[]), (63, .bool (!decide (s_0.now_seq_kind = [])))]) [1, 3, 4, 5, 63] rfl ?_
  refine Zcn hS (fun h63 hS => ?_) (fun h63 hS => ?_)
  ·
   cases hS
  refine Zk ?_
  refine Zq (Zq (Zr ?_))
  refine Zu (q_field gfa93_0 rfl) ?_
  refine Zu (q_field gfa61_0 rfl) ?_
  refine Zu (q_fe gone50 rfl rfl) ?_
  refine Zu (q_ln (s := s_0.now_work) Tryz.underlying50 rfl) ?_
  refine Zy ?_
  refine Zb ?_
  refine VC.iter (S := Unit) (fun (_ : Unit) => ()) (fun (_ : Unit) => [(1, ptr b1_1 0), (3, ptr b3_2 0), (4, .func (.func 110) #[] #[ptr b3_2 0]), (5, .func (.func 113) #[] #[]), (73, s_0.now_work.val), (74, i64 (s_0.now_work.l.length : Int)), (75, i64 0)]) (fun (_ : Unit) => Mo.tt) (fun (_ : Unit) => Ow.star (Blk b1_1 (zStateState s_0) 93) (Ow.star (Bd 212 5 b3_2 y30_5) (Ow.emp))) () [1, 3, 4, 5, 73, 74, 75] hS rfl ?_
  clear hS
  rintro _ m1 y1 hS hK1
  refine Zq (Zr ?_)
  refine Zu (q_lss rfl rfl) ?_
  refine Zl ?_
  refine Zq ?_
  refine Zc hS (fun h76 hS => ?_) (fun h76 hS => ?_)
  ·
   refine Zk ?_
   refine Zq (Zb (Zq (Zr ?_)))
   obtain ⟨z77_8, nz77_8, hz77_8, hS⟩ := at_s hS
   refine Zu (q_ixm (s := s_0.now_work) Tryz.underlying50 gsz185 rfl rfl nz77_8 (lt_of_get nz77_8 hz77_8)) ?_
   refine Zu (q_els (s := s_0.now_work) gagg185 rfl rfl hz77_8) ?_
   refine VL.alloc (cs := [str [], i64 0, str []]) (by kernel_rfl) (by decide) fun b9_9 => ?_
   refine Zv (vc := [str z77_8.path, i64 z77_8.mode, str z77_8.data]) (cs' := [str z77_8.path, i64 z77_8.mode, str z77_8.data]) rfl gsz185 ?_
   refine Zl ?_
   cases hS
  replace hS := up2 hS hK1
  refine Zx ?_
  refine Zq (Zq (Zr ?_))
  refine Zu (q_field gfa93_0 rfl) ?_
  refine Zu (q_field gfa61_1 rfl) ?_
  refine Zu (q_fe gone51 rfl rfl) ?_
  refine Zu (q_ln (s := s_0.now_index) Tryz.underlying51 rfl) ?_
  refine Zy ?_
  refine Zb ?_
  refine VC.iter (S := Unit) (fun (_ : Unit) => ()) (fun (_ : Unit) => [(1, ptr b1_1 0), (3, ptr b3_2 0), (4, .func (.func 110) #[] #[ptr b3_2 0]), (5, .func (.func 113) #[] #[]), (96, s_0.now_index.val), (97, i64 (s_0.now_index.l.length : Int)), (98, i64 0)]) (fun (_ : Unit) => Mo.tt) (fun (_ : Unit) => Ow.star (Blk b1_1 (zStateState s_0) 93) (Ow.star (Bd 212 5 b3_2 y30_5) (Ow.emp))) () [1, 3, 4, 5, 96, 97, 98] hS rfl ?_
  clear hS
  rintro _ m1 y1 hS hK1
  refine Zq (Zr ?_)
  refine Zu (q_lss rfl rfl) ?_
  refine Zl ?_
  refine Zq ?_
  refine Zc hS (fun h99 hS => ?_) (fun h99 hS => ?_)
  ·
   refine Zk ?_
   refine Zq (Zb (Zq (Zr ?_)))
   obtain ⟨z100_10, nz100_10, hz100_10, hS⟩ := at_s hS
   refine Zu (q_ixm (s := s_0.now_index) Tryz.underlying51 gsz218 rfl rfl nz100_10 (lt_of_get nz100_10 hz100_10)) ?_
   refine Zu (q_els (s := s_0.now_index) gagg218 rfl rfl hz100_10) ?_
   refine VL.alloc (cs := [str [], i64 0, i64 0, str [], i64 0, i64 0]) (by kernel_rfl) (by decide) fun b11_11 => ?_
   refine Zv (vc := [str z100_10.path, i64 z100_10.stage, i64 z100_10.mode, str z100_10.data, i64 z100_10.time, i64 z100_10.size]) (cs' := [str z100_10.path, i64 z100_10.stage, i64 z100_10.mode, str z100_10.data, i64 z100_10.time, i64 z100_10.size]) rfl gsz218 ?_
   refine Zl ?_
   cases hS
  replace hS := up2 hS hK1
  refine Zx ?_
  refine Zq (Zq (Zr ?_))
  refine Zu (q_field gfa93_1 rfl) ?_
  refine Zu (q_fe gone68 rfl rfl) ?_
  refine Zu (q_lnm StateCommit.pl (s := s_0.commits) Tryz.underlying68 rfl) ?_
  refine Zy ?_
  refine Zb ?_
  refine VC.iter (S := Unit) (fun (_ : Unit) => ()) (fun (_ : Unit) => [(1, ptr b1_1 0), (3, ptr b3_2 0), (4, .func (.func 110) #[] #[ptr b3_2 0]), (5, .func (.func 113) #[] #[]), (122, s_0.commits.val), (123, i64 ((s_0.commits.l.map StateCommit.pl).length : Int)), (124, i64 0)]) (fun (_ : Unit) => Mo.tt) (fun (_ : Unit) => Ow.star (Blk b1_1 (zStateState s_0) 93) (Ow.star (Bd 212 5 b3_2 y30_5) (Ow.emp))) () [1, 3, 4, 5, 122, 123, 124] hS rfl ?_
  clear hS
  rintro _ m1 y1 hS hK1
  refine Zq (Zr ?_)
  refine Zu (q_lss rfl rfl) ?_
  refine Zl ?_
  refine Zq ?_
  refine Zc hS (fun h125 hS => ?_) (fun h125 hS => ?_)
  ·
   refine Zk ?_
   refine Zq (Zb (Zq (Zr ?_)))
   refine Zm ?_
   obtain ⟨z127_12, nz127_12, hz127_12, hS⟩ := atm_s hS
   refine VL.deep z127_12.m hz127_12 (fun _ q => q) ?_
   refine Zu (q_ixm (s := s_0.commits) Tryz.underlying68 gsz110 rfl rfl nz127_12 (lt_of_get nz127_12 hz127_12)) ?_
   refine Zu (q_els (s := s_0.commits) gagg110 rfl rfl hz127_12) ?_
   refine VL.alloc (cs := [.slice none 0 0, .slice none 0 0, i64 0, str []]) (by kernel_rfl) (by decide) fun b13_13 => ?_
   refine Za ?_
   refine Zv (vc := [z127_12.tree.val, z127_12.parents.val, i64 z127_12.time, str z127_12.text]) (cs' := [z127_12.tree.val, z127_12.parents.val, i64 z127_12.time, str z127_12.text]) rfl gsz110 ?_
   refine Zl ?_
   refine Zq ?_
   cases hS
  replace hS := up2 hS hK1
  refine Zx ?_
  refine Zq (Zq (Zr ?_))
  refine Zu (q_field gfa93_0 rfl) ?_
  refine Zu (q_field gfa61_5 rfl) ?_
  refine Zu (q_fe gone59 rfl rfl) ?_
  refine Zu (q_lnm ShelfShelf.pl (s := s_0.now_stash) Tryz.underlying59 rfl) ?_
  refine Zy ?_
  refine VC.keep (ρ' := [(1, ptr b1_1 0), (3, ptr b3_2 0), (4, .func (.func 110) #[] #[ptr b3_2 0]), (5, .func (.func 113) #[] #[]), (166, i64 ((s_0.now_stash.l.map ShelfShelf.pl).length : Int)), (167, i64 0)]) [1, 3, 4, 5, 166, 167] rfl ?_
  refine Zb ?_
  refine VC.iter (S := Unit) (fun (_ : Unit) => ()) (fun (_ : Unit) => [(1, ptr b1_1 0), (3, ptr b3_2 0), (4, .func (.func 110) #[] #[ptr b3_2 0]), (5, .func (.func 113) #[] #[]), (166, i64 ((s_0.now_stash.l.map ShelfShelf.pl).length : Int)), (167, i64 0)]) (fun (_ : Unit) => Mo.tt) (fun (_ : Unit) => Ow.star (Blk b1_1 (zStateState s_0) 93) (Ow.star (Bd 212 5 b3_2 y30_5) (Ow.emp))) () [1, 3, 4, 5, 166, 167] hS rfl ?_
  clear hS
  rintro _ m1 y1 hS hK1
  refine Zq (Zr ?_)
  refine Zu (q_lss rfl rfl) ?_
  refine Zl ?_
  refine Zq ?_
  refine Zc hS (fun h168 hS => ?_) (fun h168 hS => ?_)
  ·
   refine Zk ?_
   refine Zq (Zb (Zq (Zr ?_)))
   refine Zy ?_
   cases hS
  replace hS := up2 hS hK1
  refine Zx ?_
  refine Zq ?_
  refine VC.draw [(0, true), (1, true), (2, true), (3, true), (4, true), (5, true), (7, true), (8, true), (9, true), (10, true), (11, true), (6, false), (12, false), (13, false), (14, false)] mixed (by kernel_rfl) (by kernel_rfl) (by kernel_rfl) ?_
  refine Zw rfl (q_move rfl) ?_
  refine Zw rfl (q_move rfl) ?_
  refine Zw rfl (q_field gfa93_2 rfl) ?_
  refine Zw rfl (q_field gfa91_0 rfl) ?_
  refine Zw rfl (q_fe gone89 rfl rfl) ?_
  refine Zw rfl (q_ln (s := s_0.log_back) Tryz.underlying89 rfl) ?_
  refine Zw rfl (q_move rfl) ?_
  refine Zw rfl (q_field gfa93_2 rfl) ?_
  refine Zw rfl (q_field gfa91_1 rfl) ?_
  refine Zw rfl (q_fe gone89 rfl rfl) ?_
  refine Zw rfl (q_ln (s := s_0.log_forth) Tryz.underlying89 rfl) ?_
  refine VD.one rfl ?_
  obtain ⟨b183, hS⟩ := gd_s hS
  refine Zu (q_callV (itoa_ct (s_0.log_back.l.length : Int) b183) rfl rfl (fun _ _ => rfl)) ?_
  refine VL.back (D' := [(11, i64 (s_0.log_forth.l.length : Int)), (10, s_0.log_forth.val), (9, ptr b1_1 19), (8, ptr b1_1 18)]) (by kernel_rfl) (Pend.cons rfl (q_ln (s := s_0.log_forth) Tryz.underlying89 rfl) (Pend.cons rfl (q_fe gone89 rfl rfl) (Pend.cons rfl (q_field gfa91_1 rfl) (Pend.cons rfl (q_field gfa93_2 rfl) (Pend.nil))))) ?_
  refine VD.one rfl ?_
  obtain ⟨b189, hS⟩ := gd_s hS
  refine Zu (q_callV (itoa_ct (s_0.log_forth.l.length : Int) b189) rfl rfl (fun _ _ => rfl)) ?_
  refine VL.back (D' := []) (by kernel_rfl) (Pend.nil) ?_
  refine VD.one rfl ?_
  refine VL.lit (α := Str) (xs := [.const (str [117, 110, 100, 111]), .tmp 183, .const (str [114, 101, 100, 111]), .tmp 189]) (vs := [str [117, 110, 100, 111], str (itoaS (s_0.log_back.l.length : Int)), str [114, 101, 100, 111], str (itoaS (s_0.log_forth.l.length : Int))]) [[117, 110, 100, 111], (itoaS (s_0.log_back.l.length : Int)), [114, 101, 100, 111], (itoaS (s_0.log_forth.l.length : Int))] Tryz.underlying89 glit9 (by decide) rfl rfl rfl rfl (by decide) (fun _ _ _ _ => trivial) (by decide) (fun s190_14 hs190_14 => ?_) (by decide)
  replace hS := lt_to hs190_14 hS
  refine VL.back (D' := []) (by kernel_rfl) (Pend.nil) ?_
  refine VD.one rfl ?_
  obtain ⟨y191_16, ey191_16, hS⟩ := bd_s hS
  refine VL.callOV (vs := [s190_14.val]) (caps := [ptr b3_2 0]) (state_Text_1_ct s190_14 b3_2 y30_5 ey191_16) rfl rfl (by decide) ?_
  rintro _ rfl
  try dsimp only
  refine VL.back (D' := []) (by kernel_rfl) (Pend.nil) ?_
  refine VD.to (fun _ _ h => h) ?_
  refine VC.keep (ρ' := [(3, ptr b3_2 0)]) [3] rfl ?_
  refine Zq (Zr ?_)
  refine VL.callO (string_ct b3_2 y191_16) rfl (by decide) ?_
  rintro _ _
  refine Zy ?_
  cases hS
  exact Ze
 cases hS
end Go.Proofs.YthbccdlpalenlaaGreatDoor
end

section
set_option linter.unusedVariables false
namespace Go.Proofs.YthbccdlpalenlaaGreatDoor
set_option maxHeartbeats 4000000
set_option maxRecDepth 100000
set_option synthInstance.maxSize 2000
set_option synthInstance.maxHeartbeats 1000000
open Go.RowKit Go.V
open Go.S hiding Str
theorem l25_known_ct  {r : Bool} (hS : Sh.l25_known = some r) :
 Ct Tryz.prog 20 [] Gl (Ow.emp) (X := Unit) (fun _ => .bool r) (fun _ => True) (fun _ => Mo.tt) (fun _ => Ow.emp) := by
 refine Zo Tryz.func20 Tryz.ntmps20 fun c => ?_
 unfold Sh.l25_known at hS
 refine Zq (Zr ?_)
 refine Zy ?_
 refine Zq (Zr ?_)
 obtain ⟨y11_1, ey11_1, hS⟩ := bd_s hS
 refine Zu (q_call (state_New_ct ey11_1) rfl (fun _ _ => rfl)) ?_
 refine VL.alloc (cs := [.slice none 0 0, .slice none 0 0, .slice none 0 0, str [], i64 0, str [], i64 0, str [], .slice none 0 0, .slice none 0 0, i64 0, str [], str [], i64 0, .slice none 0 0, .slice none 0 0, .slice none 0 0, .slice none 0 0, .slice none 0 0, .slice none 0 0, i64 0]) (by kernel_rfl) (by decide) fun b1_2 => ?_
 refine Zv (vc := [.slice none 0 0, .slice none 0 0, .slice none 0 0, str [109, 97, 105, 110], i64 0, str [], i64 0, str [], .slice none 0 0, .slice none 0 0, i64 0, str [], str [], i64 0, .slice none 0 0, .slice none 0 0, .slice none 0 0, .slice none 0 0, .slice none 0 0, .slice none 0 0, i64 0]) (cs' := [.slice none 0 0, .slice none 0 0, .slice none 0 0, str [109, 97, 105, 110], i64 0, str [], i64 0, str [], .slice none 0 0, .slice none 0 0, i64 0, str [], str [], i64 0, .slice none 0 0, .slice none 0 0, .slice none 0 0, .slice none 0 0, .slice none 0 0, .slice none 0 0, i64 0]) rfl gsz93 ?_
 refine Zl ?_
 refine Zq (Zr ?_)
 refine Zu (q_field gfa93_0 rfl) ?_
 refine Zu (q_fep (j := 0) (n := 17) gagg61 rfl rfl rfl) ?_
 obtain ⟨y14_3, ey14_3, hS⟩ := bd_s hS
 refine Zu (q_call (state_Mark_ct (⟨⟨none, 0, []⟩, ⟨none, 0, []⟩, ⟨none, 0, []⟩, [109, 97, 105, 110], 0, [], 0, [], ⟨none, 0, []⟩, ⟨none, 0, []⟩, 0, [], [], 0, ⟨none, 0, []⟩, ⟨none, 0, []⟩, ⟨none, 0, []⟩⟩ : StateNow) ey14_3) rfl (fun _ _ => rfl)) ?_
 refine Zy ?_
 refine Zq (Zr ?_)
 refine Zm ?_
 obtain ⟨y17_4, ey17_4, hS⟩ := bd_s hS
 refine VL.callF (state_Unmark_ct y14_3 ey17_4) rfl (by decide) ?_
 rintro ⟨q17_4_0, q17_4_1⟩ rfl
 try dsimp only
 refine Zm ?_
 refine Zu (q_extract rfl rfl) ?_
 refine Zu (q_extract rfl rfl) ?_
 refine VL.alloc (cs := [.slice none 0 0, .slice none 0 0, .slice none 0 0, str [], i64 0, str [], i64 0, str [], .slice none 0 0, .slice none 0 0, i64 0, str [], str [], i64 0, .slice none 0 0, .slice none 0 0, .slice none 0 0]) (by kernel_rfl) (by decide) fun b3_5 => ?_
 refine Zv (vc := [q17_4_0.work.val, q17_4_0.index.val, q17_4_0.refs.val, str q17_4_0.head_branch, i64 q17_4_0.head_commit, str q17_4_0.seq_kind, i64 q17_4_0.seq_other, str q17_4_0.seq_text, q17_4_0.seq_doing.val, q17_4_0.seq_todo.val, i64 q17_4_0.seq_made, str q17_4_0.seq_branch, str q17_4_0.seq_head_branch, i64 q17_4_0.seq_head_commit, q17_4_0.seq_index.val, q17_4_0.seq_work.val, q17_4_0.stash.val]) (cs' := [q17_4_0.work.val, q17_4_0.index.val, q17_4_0.refs.val, str q17_4_0.head_branch, i64 q17_4_0.head_commit, str q17_4_0.seq_kind, i64 q17_4_0.seq_other, str q17_4_0.seq_text, q17_4_0.seq_doing.val, q17_4_0.seq_todo.val, i64 q17_4_0.seq_made, str q17_4_0.seq_branch, str q17_4_0.seq_head_branch, i64 q17_4_0.seq_head_commit, q17_4_0.seq_index.val, q17_4_0.seq_work.val, q17_4_0.stash.val]) rfl gsz61 ?_
 refine Zy ?_
 refine VC.keep (ρ' := [(1, ptr b1_2 0), (2, str y14_3), (3, ptr b3_5 0), (4, q17_4_1.val)]) [1, 2, 3, 4] rfl ?_
 refine Zq (Zr ?_)
 refine Zu (q_fes gagg93 rfl rfl) ?_
 obtain ⟨y22_6, ey22_6, hS⟩ := bd_s hS
 refine VL.callF (state_Encode_ct (⟨⟨none, 0, []⟩, ⟨none, 0, []⟩, ⟨none, 0, []⟩, [109, 97, 105, 110], 0, [], 0, [], ⟨none, 0, []⟩, ⟨none, 0, []⟩, 0, [], [], 0, ⟨none, 0, []⟩, ⟨none, 0, []⟩, ⟨none, 0, []⟩, ⟨none, 0, []⟩, ⟨none, 0, []⟩, ⟨none, 0, []⟩, 0⟩ : StateState) ey22_6) rfl (by decide) ?_
 rintro q22_6_0 rfl
 try dsimp only
 obtain ⟨y23_7, ey23_7, hS⟩ := bd_s hS
 refine VL.callF (state_Decode_ct q22_6_0 ey23_7) rfl (by decide) ?_
 rintro ⟨q23_7_0, q23_7_1⟩ rfl
 try dsimp only
 refine Zm ?_
 refine Zu (q_extract rfl rfl) ?_
 refine Zu (q_extract rfl rfl) ?_
 refine VL.alloc (cs := [.slice none 0 0, .slice none 0 0, .slice none 0 0, str [], i64 0, str [], i64 0, str [], .slice none 0 0, .slice none 0 0, i64 0, str [], str [], i64 0, .slice none 0 0, .slice none 0 0, .slice none 0 0, .slice none 0 0, .slice none 0 0, .slice none 0 0, i64 0]) (by kernel_rfl) (by decide) fun b5_8 => ?_
 refine Zv (vc := (zStateState q23_7_0)) (cs' := (zStateState q23_7_0)) rfl gsz93 ?_
 refine Zy ?_
 refine Zq (Zr ?_)
 refine Zm ?_
 obtain ⟨b28, hS⟩ := gd_s hS
 obtain ⟨y28_9, ey28_9, hS⟩ := lt_s hS
 refine Zu (q_catE rfl rfl b28 ey28_9) ?_
 obtain ⟨y29_10, ey29_10, hS⟩ := bd_s hS
 refine VL.callF (state_Unmark_ct y28_9 ey29_10) rfl (by decide) ?_
 rintro ⟨q29_10_0, q29_10_1⟩ rfl
 try dsimp only
 refine Zm ?_
 refine Zu (q_extract rfl rfl) ?_
 refine Zu (q_extract rfl rfl) ?_
 refine VL.alloc (cs := [.slice none 0 0, .slice none 0 0, .slice none 0 0, str [], i64 0, str [], i64 0, str [], .slice none 0 0, .slice none 0 0, i64 0, str [], str [], i64 0, .slice none 0 0, .slice none 0 0, .slice none 0 0]) (by kernel_rfl) (by decide) fun b7_11 => ?_
 refine Zv (vc := [q29_10_0.work.val, q29_10_0.index.val, q29_10_0.refs.val, str q29_10_0.head_branch, i64 q29_10_0.head_commit, str q29_10_0.seq_kind, i64 q29_10_0.seq_other, str q29_10_0.seq_text, q29_10_0.seq_doing.val, q29_10_0.seq_todo.val, i64 q29_10_0.seq_made, str q29_10_0.seq_branch, str q29_10_0.seq_head_branch, i64 q29_10_0.seq_head_commit, q29_10_0.seq_index.val, q29_10_0.seq_work.val, q29_10_0.stash.val]) (cs' := [q29_10_0.work.val, q29_10_0.index.val, q29_10_0.refs.val, str q29_10_0.head_branch, i64 q29_10_0.head_commit, str q29_10_0.seq_kind, i64 q29_10_0.seq_other, str q29_10_0.seq_text, q29_10_0.seq_doing.val, q29_10_0.seq_todo.val, i64 q29_10_0.seq_made, str q29_10_0.seq_branch, str q29_10_0.seq_head_branch, i64 q29_10_0.seq_head_commit, q29_10_0.seq_index.val, q29_10_0.seq_work.val, q29_10_0.stash.val]) rfl gsz61 ?_
 refine Zy ?_
 refine VC.keep (ρ' := [(1, ptr b1_2 0), (2, str y14_3), (3, ptr b3_5 0), (4, q17_4_1.val), (5, ptr b5_8 0), (6, q23_7_1.val), (8, q29_10_1.val)]) [1, 2, 3, 4, 5, 6, 8] rfl ?_
 refine Zq (Zr ?_)
 refine Zu (q_fes gagg93 rfl rfl) ?_
 obtain ⟨y34_12, ey34_12, hS⟩ := bd_s hS
 refine VL.callF (state_Weight_ct (⟨⟨none, 0, []⟩, ⟨none, 0, []⟩, ⟨none, 0, []⟩, [109, 97, 105, 110], 0, [], 0, [], ⟨none, 0, []⟩, ⟨none, 0, []⟩, 0, [], [], 0, ⟨none, 0, []⟩, ⟨none, 0, []⟩, ⟨none, 0, []⟩, ⟨none, 0, []⟩, ⟨none, 0, []⟩, ⟨none, 0, []⟩, 0⟩ : StateState) ey34_12) rfl (by decide) ?_
 rintro ⟨q34_12_0, q34_12_1⟩ rfl
 try dsimp only
 refine Zm ?_
 refine Zu (q_extract rfl rfl) ?_
 refine Zu (q_extract rfl rfl) ?_
 refine Zy ?_
 refine Zq (Zr ?_)
 refine Zm ?_
 refine Zu (q_ereq Tryz.underlying26 rfl) ?_
 refine Zm ?_
 refine Zsp 39 hS (fun h39 hS => ?_) (fun h39 hS => ?_)
 ·
  refine Zg ?_
  refine Zh (q_ereq Tryz.underlying26 rfl) ?_
  refine Zy ?_
  refine Zsp 43 hS (fun h43 hS => ?_) (fun h43 hS => ?_)
  ·
   refine Zg ?_
   refine Zh (q_erne Tryz.underlying26 rfl) ?_
   refine Zy ?_
   refine Zspn 47 hS (fun h47 hS => ?_) (fun h47 hS => ?_)
   ·
    refine Zg ?_
    refine Zh (q_ereq Tryz.underlying26 rfl) ?_
    refine Zy ?_
    refine Zsp 51 hS (fun h51 hS => ?_) (fun h51 hS => ?_)
    ·
     refine Zh (q_field gfa61_3 rfl) ?_
     refine Zh (q_field gfa54_0 rfl) ?_
     refine Zh (q_fe gone9 rfl rfl) ?_
     refine Zh (q_seq rfl rfl) ?_
     refine Zy ?_
     refine Zsp 57 hS (fun h57 hS => ?_) (fun h57 hS => ?_)
     ·
      refine Zh (q_fes gagg61 rfl rfl) ?_
      obtain ⟨y59_13, ey59_13, hS⟩ := bd_s hS
      refine Zh (q_call (state_Mark_ct q17_4_0 ey59_13) rfl (fun _ _ => rfl)) ?_
      refine Zg ?_
      refine Zh (q_seq rfl rfl) ?_
      refine Zy ?_
      refine Zsp 63 hS (fun h63 hS => ?_) (fun h63 hS => ?_)
      ·
       refine Zh (q_fes gagg93 rfl rfl) ?_
       refine Zh (q_fes gagg93 rfl rfl) ?_
       obtain ⟨y66_14, ey66_14, hS⟩ := bd_s hS
       refine Zh (q_call (state_Same_ct (⟨⟨none, 0, []⟩, ⟨none, 0, []⟩, ⟨none, 0, []⟩, [109, 97, 105, 110], 0, [], 0, [], ⟨none, 0, []⟩, ⟨none, 0, []⟩, 0, [], [], 0, ⟨none, 0, []⟩, ⟨none, 0, []⟩, ⟨none, 0, []⟩, ⟨none, 0, []⟩, ⟨none, 0, []⟩, ⟨none, 0, []⟩, 0⟩ : StateState) q23_7_0 ey66_14) rfl (fun _ _ => rfl)) ?_
       refine Zy ?_
       refine Zspb 68 hS (fun h68 hS => ?_) (fun h68 hS => ?_)
       ·
        refine Zh (q_fes gagg93 rfl rfl) ?_
        refine VL.guard rfl rfl ?_
        obtain ⟨y70_15, ey70_15, hS⟩ := bd_s hS
        refine VL.callF (state_Check_ct (⟨⟨none, 0, []⟩, ⟨none, 0, []⟩, ⟨none, 0, []⟩, [109, 97, 105, 110], 0, [], 0, [], ⟨none, 0, []⟩, ⟨none, 0, []⟩, 0, [], [], 0, ⟨none, 0, []⟩, ⟨none, 0, []⟩, ⟨none, 0, []⟩, ⟨none, 0, []⟩, ⟨none, 0, []⟩, ⟨none, 0, []⟩, 0⟩ : StateState) ey70_15) rfl (by decide) ?_
        rintro q70_15_0 rfl
        try dsimp only
        refine Zh (q_ereq Tryz.underlying26 rfl) ?_
        refine Zy ?_
        refine Zsp 73 hS (fun h73 hS => ?_) (fun h73 hS => ?_)
        ·
         refine Zh (q_fes gagg93 rfl rfl) ?_
         obtain ⟨y75_16, ey75_16, hS⟩ := bd_s hS
         refine Zh (q_call (state_Text_ct (⟨⟨none, 0, []⟩, ⟨none, 0, []⟩, ⟨none, 0, []⟩, [109, 97, 105, 110], 0, [], 0, [], ⟨none, 0, []⟩, ⟨none, 0, []⟩, 0, [], [], 0, ⟨none, 0, []⟩, ⟨none, 0, []⟩, ⟨none, 0, []⟩, ⟨none, 0, []⟩, ⟨none, 0, []⟩, ⟨none, 0, []⟩, 0⟩ : StateState) ey75_16) rfl (fun _ _ => rfl)) ?_
         refine Zh (q_seq rfl rfl) ?_
         refine Zy ?_
         refine Zsp 78 hS (fun h78 hS => ?_) (fun h78 hS => ?_)
         ·
          refine Zg ?_
          refine Zh (q_eql rfl rfl) ?_
          refine Zy ?_
          refine VC.keep (ρ' := [(0, .bool (decide (q34_12_0 = 4)))]) [0] rfl ?_
          cases hS
          exact Ze
         refine VL.runs 4 [(0, some false)] (by kernel_rfl) ?_
         refine Zl ?_
         refine VC.keep (ρ' := [(0, .bool false)]) [0] rfl ?_
         cases hS
         exact Ze
        refine VL.runs 9 [(0, some false)] (by kernel_rfl) ?_
        refine Zl ?_
        refine VC.keep (ρ' := [(0, .bool false)]) [0] rfl ?_
        cases hS
        exact Ze
       refine VL.runs 14 [(0, some false)] (by kernel_rfl) ?_
       refine Zl ?_
       refine VC.keep (ρ' := [(0, .bool false)]) [0] rfl ?_
       cases hS
       exact Ze
      refine VL.runs 19 [(0, some false)] (by kernel_rfl) ?_
      refine Zl ?_
      refine VC.keep (ρ' := [(0, .bool false)]) [0] rfl ?_
      cases hS
      exact Ze
     refine VL.runs 25 [(0, some false)] (by kernel_rfl) ?_
     refine Zl ?_
     refine VC.keep (ρ' := [(0, .bool false)]) [0] rfl ?_
     cases hS
     exact Ze
    refine VL.runs 31 [(0, some false)] (by kernel_rfl) ?_
    refine Zl ?_
    refine VC.keep (ρ' := [(0, .bool false)]) [0] rfl ?_
    cases hS
    exact Ze
   refine VL.runs 35 [(0, some false)] (by kernel_rfl) ?_
   refine Zl ?_
   refine VC.keep (ρ' := [(0, .bool false)]) [0] rfl ?_
   cases hS
   exact Ze
  refine VL.runs 39 [(0, some false)] (by kernel_rfl) ?_
  refine Zl ?_
  refine VC.keep (ρ' := [(0, .bool false)]) [0] rfl ?_
  cases hS
  exact Ze
 refine VL.runs 43 [(0, some false)] (by kernel_rfl) ?_
 refine Zl ?_
 refine VC.keep (ρ' := [(0, .bool false)]) [0] rfl ?_
 cases hS
 exact Ze
theorem l14_Few_ct (r_0 : Sv FilesFile) {r : Bool} (hS : Sh.l14_Few r_0.l = some r) :
 Ct Tryz.prog 64 [r_0.val] r_0.ok (Ow.emp) (X := Unit) (fun _ => .bool r) (fun _ => True) (fun _ => Mo.tt) (fun _ => Ow.emp) := by
 refine Zo Tryz.func64 Tryz.ntmps64 fun c => ?_
 unfold Sh.l14_Few at hS
 refine Zq (Zr ?_)
 refine Zy ?_
 refine Zq (Zq (Zr ?_))
 refine Zm ?_
 refine Zu (q_ln (s := r_0) Tryz.underlying50 rfl) ?_
 refine Zu (q_gtr rfl rfl) ?_
 refine Zl ?_
 refine Zc hS (fun h6 hS => ?_) (fun h6 hS => ?_)
 ·
  refine Zq (Zr ?_)
  refine Zy ?_
  cases hS
  exact Ze
 refine Zk ?_
 refine Zq (Zq (Zr ?_))
 refine Zy ?_
 refine Zb ?_
 refine VC.iter (S := Int) (fun (i3_1 : Int) => i3_1) (fun (i3_1 : Int) => [(0, r_0.val), (3, i64 i3_1)]) (fun (i3_1 : Int) => Mo.tt) (fun (i3_1 : Int) => Ow.emp) 0 [0, 3] hS rfl ?_
 clear hS
 rintro i3_1 m1 y1 hS hK1
 refine Zq (Zq (Zr ?_))
 refine Zy ?_
 refine Zu (q_ln (s := r_0) Tryz.underlying50 rfl) ?_
 refine Zu (q_lss rfl rfl) ?_
 refine Zl ?_
 refine Zc hS (fun h10 hS => ?_) (fun h10 hS => ?_)
 ·
  refine Zk ?_
  refine Zq (Zb ?_)
  refine VC.cutJ (S := Bool) (fun (x28_2 : Bool) => x28_2) (fun (x28_2 : Bool) => [(0, r_0.val), (3, i64 i3_1), (28, .bool x28_2)]) (fun (x28_2 : Bool) => Mo.tt) (fun (x28_2 : Bool) => Ow.emp) hS ?_ ?_
  ·
   clear hS
   intro k3 hS
   refine Zr ?_
   refine Zy ?_
   obtain ⟨z15_4, nz15_4, hz15_4, hS⟩ := at_s hS
   refine Zu (q_ixm (s := r_0) Tryz.underlying50 gsz185 rfl rfl nz15_4 (lt_of_get nz15_4 hz15_4)) ?_
   refine Zu (q_field gfa185_0 rfl) ?_
   refine Zu (q_elf (s := r_0) gone9 rfl hz15_4 rfl) ?_
   refine Zu (q_slen Tryz.underlying9 rfl) ?_
   refine Zu (q_gtr rfl rfl) ?_
   refine Zm ?_
   refine Zsp 20 hS (fun h20 hS => ?_) (fun h20 hS => ?_)
   ·
    refine VL.runs 8 [(28, some true)] (by kernel_rfl) ?_
    refine VL.mt true [0, 3, 28] (fun _ _ h => h) hS rfl
   refine Zy ?_
   obtain ⟨z23_5, nz23_5, hz23_5, hS⟩ := at_s hS
   refine Zh (q_ixm (s := r_0) Tryz.underlying50 gsz185 rfl rfl nz23_5 (lt_of_get nz23_5 hz23_5)) ?_
   refine Zh (q_field gfa185_2 rfl) ?_
   refine Zh (q_elf (s := r_0) gone9 rfl hz23_5 rfl) ?_
   refine Zh (q_slen Tryz.underlying9 rfl) ?_
   refine Zh (q_gtr rfl rfl) ?_
   refine Zf ?_
   refine VL.mt (decide (5000 < (z23_5.data.length : Int))) [0, 3, 28] (fun _ _ h => h) hS rfl
  clear hS
  rintro x28_2 hS
  refine Zcb hS (fun h28 hS => ?_) (fun h28 hS => ?_)
  ·
   refine Zq (Zr ?_)
   refine Zy ?_
   replace hS := up2 hS hK1
   cases hS
   exact Ze
  refine Zk ?_
  refine Zr ?_
  refine Zm ?_
  obtain ⟨b12, hS⟩ := gd_s hS
  refine Zu (q_add rfl rfl b12) ?_
  refine Za ?_
  refine VL.rnd (i3_1 + 1) [0, 3] (fun _ _ h => h) (go2 hS hK1) rfl
 replace hS := up2 hS hK1
 refine Zx ?_
 refine Zq (Zr ?_)
 refine Zy ?_
 cases hS
 exact Ze
theorem l15_Few_ct (l_0 : Sv IndexEntry) {r : Bool} (hS : Sh.l15_Few l_0.l = some r) :
 Ct Tryz.prog 65 [l_0.val] l_0.ok (Ow.emp) (X := Unit) (fun _ => .bool r) (fun _ => True) (fun _ => Mo.tt) (fun _ => Ow.emp) := by
 refine Zo Tryz.func65 Tryz.ntmps65 fun c => ?_
 unfold Sh.l15_Few at hS
 refine Zq (Zr ?_)
 refine Zy ?_
 refine Zq (Zq (Zr ?_))
 refine Zm ?_
 refine Zu (q_ln (s := l_0) Tryz.underlying51 rfl) ?_
 refine Zu (q_gtr rfl rfl) ?_
 refine Zl ?_
 refine Zc hS (fun h6 hS => ?_) (fun h6 hS => ?_)
 ·
  refine Zq (Zr ?_)
  refine Zy ?_
  cases hS
  exact Ze
 refine Zk ?_
 refine Zq (Zq (Zr ?_))
 refine Zy ?_
 refine Zb ?_
 refine VC.iter (S := Int) (fun (i3_1 : Int) => i3_1) (fun (i3_1 : Int) => [(0, l_0.val), (3, i64 i3_1)]) (fun (i3_1 : Int) => Mo.tt) (fun (i3_1 : Int) => Ow.emp) 0 [0, 3] hS rfl ?_
 clear hS
 rintro i3_1 m1 y1 hS hK1
 refine Zq (Zq (Zr ?_))
 refine Zy ?_
 refine Zu (q_ln (s := l_0) Tryz.underlying51 rfl) ?_
 refine Zu (q_lss rfl rfl) ?_
 refine Zl ?_
 refine Zc hS (fun h10 hS => ?_) (fun h10 hS => ?_)
 ·
  refine Zk ?_
  refine Zq (Zb ?_)
  refine VC.cutJ (S := Bool) (fun (x28_2 : Bool) => x28_2) (fun (x28_2 : Bool) => [(0, l_0.val), (3, i64 i3_1), (28, .bool x28_2)]) (fun (x28_2 : Bool) => Mo.tt) (fun (x28_2 : Bool) => Ow.emp) hS ?_ ?_
  ·
   clear hS
   intro k3 hS
   refine Zr ?_
   refine Zy ?_
   obtain ⟨z15_4, nz15_4, hz15_4, hS⟩ := at_s hS
   refine Zu (q_ixm (s := l_0) Tryz.underlying51 gsz218 rfl rfl nz15_4 (lt_of_get nz15_4 hz15_4)) ?_
   refine Zu (q_field gfa218_0 rfl) ?_
   refine Zu (q_elf (s := l_0) gone9 rfl hz15_4 rfl) ?_
   refine Zu (q_slen Tryz.underlying9 rfl) ?_
   refine Zu (q_gtr rfl rfl) ?_
   refine Zm ?_
   refine Zsp 20 hS (fun h20 hS => ?_) (fun h20 hS => ?_)
   ·
    refine VL.runs 8 [(28, some true)] (by kernel_rfl) ?_
    refine VL.mt true [0, 3, 28] (fun _ _ h => h) hS rfl
   refine Zy ?_
   obtain ⟨z23_5, nz23_5, hz23_5, hS⟩ := at_s hS
   refine Zh (q_ixm (s := l_0) Tryz.underlying51 gsz218 rfl rfl nz23_5 (lt_of_get nz23_5 hz23_5)) ?_
   refine Zh (q_field gfa218_3 rfl) ?_
   refine Zh (q_elf (s := l_0) gone9 rfl hz23_5 rfl) ?_
   refine Zh (q_slen Tryz.underlying9 rfl) ?_
   refine Zh (q_gtr rfl rfl) ?_
   refine Zf ?_
   refine VL.mt (decide (5000 < (z23_5.data.length : Int))) [0, 3, 28] (fun _ _ h => h) hS rfl
  clear hS
  rintro x28_2 hS
  refine Zcb hS (fun h28 hS => ?_) (fun h28 hS => ?_)
  ·
   refine Zq (Zr ?_)
   refine Zy ?_
   replace hS := up2 hS hK1
   cases hS
   exact Ze
  refine Zk ?_
  refine Zr ?_
  refine Zm ?_
  obtain ⟨b12, hS⟩ := gd_s hS
  refine Zu (q_add rfl rfl b12) ?_
  refine Za ?_
  refine VL.rnd (i3_1 + 1) [0, 3] (fun _ _ h => h) (go2 hS hK1) rfl
 replace hS := up2 hS hK1
 refine Zx ?_
 refine Zq (Zr ?_)
 refine Zy ?_
 cases hS
 exact Ze
theorem l25_fewNow_ct (n_0 : StateNow) {r : Bool} (hS : Sh.l25_fewNow n_0.pl = some r) :
 Ct Tryz.prog 21 [.agg #[n_0.work.val, n_0.index.val, n_0.refs.val, str n_0.head_branch, i64 n_0.head_commit, str n_0.seq_kind, i64 n_0.seq_other, str n_0.seq_text, n_0.seq_doing.val, n_0.seq_todo.val, i64 n_0.seq_made, str n_0.seq_branch, str n_0.seq_head_branch, i64 n_0.seq_head_commit, n_0.seq_index.val, n_0.seq_work.val, n_0.stash.val]] (n_0.work.ok.and (n_0.index.ok.and (n_0.refs.ok.and (n_0.seq_doing.ok.and (n_0.seq_todo.ok.and (n_0.seq_index.ok.and (n_0.seq_work.ok.and n_0.stash.ok))))))) (Ow.emp) (X := Unit) (fun _ => .bool r) (fun _ => True) (fun _ => Mo.tt) (fun _ => Ow.emp) := by
 refine Zo Tryz.func21 Tryz.ntmps21 fun c => ?_
 unfold Sh.l25_fewNow at hS
 refine Zq (Zr ?_)
 refine VL.box (cs := [n_0.work.val, n_0.index.val, n_0.refs.val, str n_0.head_branch, i64 n_0.head_commit, str n_0.seq_kind, i64 n_0.seq_other, str n_0.seq_text, n_0.seq_doing.val, n_0.seq_todo.val, i64 n_0.seq_made, str n_0.seq_branch, str n_0.seq_head_branch, i64 n_0.seq_head_commit, n_0.seq_index.val, n_0.seq_work.val, n_0.stash.val]) rfl rfl (by decide) fun b1_1 => ?_
 refine Zy ?_
 refine Zq ?_
 refine VC.cutJ (S := Bool) (fun (x60_2 : Bool) => x60_2) (fun (x60_2 : Bool) => [(1, ptr b1_1 0), (60, .bool x60_2)]) (fun (x60_2 : Bool) => Mo.tt) (fun (x60_2 : Bool) => Ow.star (Blk b1_1 [n_0.work.val, n_0.index.val, n_0.refs.val, str n_0.head_branch, i64 n_0.head_commit, str n_0.seq_kind, i64 n_0.seq_other, str n_0.seq_text, n_0.seq_doing.val, n_0.seq_todo.val, i64 n_0.seq_made, str n_0.seq_branch, str n_0.seq_head_branch, i64 n_0.seq_head_commit, n_0.seq_index.val, n_0.seq_work.val, n_0.stash.val] 61) (Ow.emp)) hS ?_ ?_
 ·
  clear hS
  intro k3 hS
  refine Zr ?_
  refine Zu (q_field gfa61_0 rfl) ?_
  refine Zu (q_fe gone50 rfl rfl) ?_
  obtain ⟨y6_4, ey6_4, hS⟩ := bd_s hS
  refine Zu (q_call (l14_Few_ct n_0.work ey6_4) rfl (fun _ _ => rfl)) ?_
  refine Zu (q_not rfl) ?_
  refine Zm ?_
  refine Zspb 8 hS (fun h8 hS => ?_) (fun h8 hS => ?_)
  ·
   refine VL.runs 52 [(60, some true)] (by kernel_rfl) ?_
   refine VL.mt true [1, 60] (fun _ _ h => h) hS rfl
  refine Zh (q_field gfa61_1 rfl) ?_
  refine Zh (q_fe gone51 rfl rfl) ?_
  obtain ⟨y11_5, ey11_5, hS⟩ := bd_s hS
  refine Zh (q_call (l15_Few_ct n_0.index ey11_5) rfl (fun _ _ => rfl)) ?_
  refine Zh (q_not rfl) ?_
  refine Zy ?_
  refine Zspb 14 hS (fun h14 hS => ?_) (fun h14 hS => ?_)
  ·
   refine VL.runs 46 [(60, some true)] (by kernel_rfl) ?_
   refine VL.mt true [1, 60] (fun _ _ h => h) hS rfl
  refine Zh (q_field gfa61_2 rfl) ?_
  refine Zh (q_fe gone52 rfl rfl) ?_
  refine Zh (q_ln (s := n_0.refs) Tryz.underlying52 rfl) ?_
  refine Zh (q_gtr rfl rfl) ?_
  refine Zy ?_
  refine Zsp 20 hS (fun h20 hS => ?_) (fun h20 hS => ?_)
  ·
   refine VL.runs 40 [(60, some true)] (by kernel_rfl) ?_
   refine VL.mt true [1, 60] (fun _ _ h => h) hS rfl
  refine Zh (q_field gfa61_5 rfl) ?_
  refine Zh (q_fe gone59 rfl rfl) ?_
  refine Zh (q_lnm ShelfShelf.pl (s := n_0.stash) Tryz.underlying59 rfl) ?_
  refine Zh (q_gtr rfl rfl) ?_
  refine Zy ?_
  refine Zsp 26 hS (fun h26 hS => ?_) (fun h26 hS => ?_)
  ·
   refine VL.runs 34 [(60, some true)] (by kernel_rfl) ?_
   refine VL.mt true [1, 60] (fun _ _ h => h) hS rfl
  refine Zh (q_field gfa61_4 rfl) ?_
  refine Zh (q_field gfa57_9 rfl) ?_
  refine Zh (q_fe gone50 rfl rfl) ?_
  obtain ⟨y30_6, ey30_6, hS⟩ := bd_s hS
  refine Zh (q_call (l14_Few_ct n_0.seq_work ey30_6) rfl (fun _ _ => rfl)) ?_
  refine Zh (q_not rfl) ?_
  refine Zy ?_
  refine Zspb 33 hS (fun h33 hS => ?_) (fun h33 hS => ?_)
  ·
   refine VL.runs 27 [(60, some true)] (by kernel_rfl) ?_
   refine VL.mt true [1, 60] (fun _ _ h => h) hS rfl
  refine Zh (q_field gfa61_4 rfl) ?_
  refine Zh (q_field gfa57_8 rfl) ?_
  refine Zh (q_fe gone51 rfl rfl) ?_
  obtain ⟨y37_7, ey37_7, hS⟩ := bd_s hS
  refine Zh (q_call (l15_Few_ct n_0.seq_index ey37_7) rfl (fun _ _ => rfl)) ?_
  refine Zh (q_not rfl) ?_
  refine Zy ?_
  refine Zspb 40 hS (fun h40 hS => ?_) (fun h40 hS => ?_)
  ·
   refine VL.runs 20 [(60, some true)] (by kernel_rfl) ?_
   refine VL.mt true [1, 60] (fun _ _ h => h) hS rfl
  refine Zh (q_field gfa61_4 rfl) ?_
  refine Zh (q_field gfa57_3 rfl) ?_
  refine Zh (q_fe gone55 rfl rfl) ?_
  refine Zh (q_ln (s := n_0.seq_doing) Tryz.underlying55 rfl) ?_
  refine Zh (q_gtr rfl rfl) ?_
  refine Zy ?_
  refine Zsp 47 hS (fun h47 hS => ?_) (fun h47 hS => ?_)
  ·
   refine VL.runs 13 [(60, some true)] (by kernel_rfl) ?_
   refine VL.mt true [1, 60] (fun _ _ h => h) hS rfl
  refine Zh (q_field gfa61_4 rfl) ?_
  refine Zh (q_field gfa57_4 rfl) ?_
  refine Zh (q_fe gone55 rfl rfl) ?_
  refine Zh (q_ln (s := n_0.seq_todo) Tryz.underlying55 rfl) ?_
  refine Zh (q_gtr rfl rfl) ?_
  refine Zy ?_
  refine Zsp 54 hS (fun h54 hS => ?_) (fun h54 hS => ?_)
  ·
   refine VL.runs 6 [(60, some true)] (by kernel_rfl) ?_
   refine VL.mt true [1, 60] (fun _ _ h => h) hS rfl
  refine Zh (q_field gfa61_4 rfl) ?_
  refine Zh (q_field gfa57_2 rfl) ?_
  refine Zh (q_fe gone9 rfl rfl) ?_
  refine Zh (q_slen Tryz.underlying9 rfl) ?_
  refine Zh (q_gtr rfl rfl) ?_
  refine Zf ?_
  refine VL.mt (decide (300 < (n_0.seq_text.length : Int))) [1, 60] (fun _ _ h => h) hS rfl
 clear hS
 rintro x60_2 hS
 refine Zcb hS (fun h60 hS => ?_) (fun h60 hS => ?_)
 ·
  refine Zq (Zr ?_)
  refine Zy ?_
  cases hS
  exact Ze
 refine Zk ?_
 refine Zq (Zq (Zr ?_))
 refine Zy ?_
 refine Zb ?_
 refine VC.iter (S := Int) (fun (i3_8 : Int) => i3_8) (fun (i3_8 : Int) => [(1, ptr b1_1 0), (3, i64 i3_8)]) (fun (i3_8 : Int) => Mo.tt) (fun (i3_8 : Int) => Ow.star (Blk b1_1 [n_0.work.val, n_0.index.val, n_0.refs.val, str n_0.head_branch, i64 n_0.head_commit, str n_0.seq_kind, i64 n_0.seq_other, str n_0.seq_text, n_0.seq_doing.val, n_0.seq_todo.val, i64 n_0.seq_made, str n_0.seq_branch, str n_0.seq_head_branch, i64 n_0.seq_head_commit, n_0.seq_index.val, n_0.seq_work.val, n_0.stash.val] 61) (Ow.emp)) 0 [1, 3] hS rfl ?_
 clear hS
 rintro i3_8 m1 y1 hS hK1
 refine Zq (Zq (Zr ?_))
 refine Zm ?_
 refine Zu (q_field gfa61_5 rfl) ?_
 refine Zu (q_fe gone59 rfl rfl) ?_
 refine Zu (q_lnm ShelfShelf.pl (s := n_0.stash) Tryz.underlying59 rfl) ?_
 refine Zu (q_lss rfl rfl) ?_
 refine Zl ?_
 refine Zc hS (fun h65 hS => ?_) (fun h65 hS => ?_)
 ·
  refine Zk ?_
  refine Zq (Zb ?_)
  refine VC.cutJ (S := Bool) (fun (x85_9 : Bool) => x85_9) (fun (x85_9 : Bool) => [(1, ptr b1_1 0), (3, i64 i3_8), (85, .bool x85_9)]) (fun (x85_9 : Bool) => Mo.tt) (fun (x85_9 : Bool) => Ow.star (Blk b1_1 [n_0.work.val, n_0.index.val, n_0.refs.val, str n_0.head_branch, i64 n_0.head_commit, str n_0.seq_kind, i64 n_0.seq_other, str n_0.seq_text, n_0.seq_doing.val, n_0.seq_todo.val, i64 n_0.seq_made, str n_0.seq_branch, str n_0.seq_head_branch, i64 n_0.seq_head_commit, n_0.seq_index.val, n_0.seq_work.val, n_0.stash.val] 61) (Ow.emp)) hS ?_ ?_
  ·
   clear hS
   intro k10 hS
   refine Zr ?_
   refine Zu (q_field gfa61_5 rfl) ?_
   refine Zu (q_fe gone59 rfl rfl) ?_
   refine Zm ?_
   obtain ⟨z71_11, nz71_11, hz71_11, hS⟩ := atm_s hS
   refine VL.deep z71_11.m hz71_11 (fun _ q => q) ?_
   refine Zu (q_ixm (s := n_0.stash) Tryz.underlying59 gsz155 rfl rfl nz71_11 (lt_of_get nz71_11 hz71_11)) ?_
   refine Zu (q_field gfa155_1 rfl) ?_
   refine Zu (q_elf (s := n_0.stash) gone50 rfl hz71_11 rfl) ?_
   obtain ⟨y74_12, ey74_12, hS⟩ := bd_s hS
   refine Zu (q_call (l14_Few_ct z71_11.index ey74_12) rfl (fun _ _ => rfl)) ?_
   refine Zu (q_not rfl) ?_
   refine Zm ?_
   refine Zspb 76 hS (fun h76 hS => ?_) (fun h76 hS => ?_)
   ·
    refine VL.runs 9 [(85, some true)] (by kernel_rfl) ?_
    refine VL.mt true [1, 3, 85] (fun _ _ h => h) hS rfl
   refine Zh (q_field gfa61_5 rfl) ?_
   refine Zh (q_fe gone59 rfl rfl) ?_
   refine Zg ?_
   obtain ⟨z80_13, nz80_13, hz80_13, hS⟩ := atm_s hS
   refine VL.deep z80_13.m hz80_13 (fun _ q => q) ?_
   refine Zh (q_ixm (s := n_0.stash) Tryz.underlying59 gsz155 rfl rfl nz80_13 (lt_of_get nz80_13 hz80_13)) ?_
   refine Zh (q_field gfa155_2 rfl) ?_
   refine Zh (q_elf (s := n_0.stash) gone50 rfl hz80_13 rfl) ?_
   obtain ⟨y83_14, ey83_14, hS⟩ := bd_s hS
   refine Zh (q_call (l14_Few_ct z80_13.work ey83_14) rfl (fun _ _ => rfl)) ?_
   refine Zh (q_not rfl) ?_
   refine Zf ?_
   refine VL.mt (!y83_14) [1, 3, 85] (fun _ _ h => h) hS rfl
  clear hS
  rintro x85_9 hS
  refine Zcb hS (fun h85 hS => ?_) (fun h85 hS => ?_)
  ·
   refine Zq (Zr ?_)
   refine Zy ?_
   replace hS := up2 hS hK1
   cases hS
   exact Ze
  refine Zk ?_
  refine Zr ?_
  refine Zm ?_
  obtain ⟨b67, hS⟩ := gd_s hS
  refine Zu (q_add rfl rfl b67) ?_
  refine Za ?_
  refine VL.rnd (i3_8 + 1) [1, 3] (fun _ _ h => h) (go2 hS hK1) rfl
 replace hS := up2 hS hK1
 refine Zx ?_
 refine Zq (Zr ?_)
 refine Zy ?_
 cases hS
 exact Ze
theorem l14_Of_ct (r_0 : Sv FilesFile) {r : List Rectoref14File} (hS : Sh.l14_Of r_0.l = some r) :
 Ct Tryz.prog 37 [r_0.val] r_0.ok (Ow.emp) (X := Sv Rectoref14File) (fun x => x.val) (fun x => r = x.l) (fun x => Mo.tt) (fun x => Sv.own x 184) := by
 refine Zo Tryz.func37 Tryz.ntmps37 fun c => ?_
 unfold Sh.l14_Of at hS
 refine Zq (Zr ?_)
 refine Zy ?_
 refine Zq (Zr ?_)
 refine Zy ?_
 refine Zq (Zq (Zr ?_))
 refine Zy ?_
 refine Zb ?_
 refine VC.nilO (⟨none, 0, []⟩ : Sv Rectoref14File) 184 ⟨rfl, rfl⟩ ?_
 refine VC.iter (S := Sv Rectoref14File × Int) (fun sg => (sg.1.l, sg.2)) (fun sg => [(0, r_0.val), (3, sg.1.val), (4, i64 sg.2)]) (fun sg => Mo.tt) (fun sg => Ow.star (Sv.own sg.1 184) (Ow.emp)) (⟨none, 0, []⟩, 0) [0, 3, 4] hS rfl ?_
 clear hS
 rintro ⟨out3_1, i4_2⟩ m1 y1 hS hK1
 refine Zq (Zq (Zr ?_))
 refine Zy ?_
 refine Zu (q_ln (s := r_0) Tryz.underlying50 rfl) ?_
 refine Zu (q_lss rfl rfl) ?_
 refine Zl ?_
 refine Zc hS (fun h8 hS => ?_) (fun h8 hS => ?_)
 ·
  refine Zk ?_
  refine Zq (Zb ?_)
  refine VC.draw [(0, true), (1, true), (2, true), (3, true), (4, true), (5, true), (6, true), (7, true), (8, true), (9, true), (10, true), (11, true), (12, true), (13, true), (14, true), (15, true), (16, true), (17, false), (18, false), (19, true)] mixed (by kernel_rfl) (by kernel_rfl) (by kernel_rfl) ?_
  refine Zw rfl (q_move rfl) ?_
  refine Zw rfl (q_move rfl) ?_
  refine Zw rfl (q_move rfl) ?_
  obtain ⟨z14_3, nz14_3, hz14_3, hS⟩ := at_s hS
  refine Zw rfl (q_ixm (s := r_0) Tryz.underlying50 gsz185 rfl rfl nz14_3 (lt_of_get nz14_3 hz14_3)) ?_
  refine Zw rfl (q_field gfa185_0 rfl) ?_
  refine Zw rfl (q_elf (s := r_0) gone9 rfl hz14_3 rfl) ?_
  refine Zw rfl (q_move rfl) ?_
  refine Zw rfl (q_move rfl) ?_
  obtain ⟨z19_4, nz19_4, hz19_4, hS⟩ := at_s hS
  refine Zw rfl (q_ixm (s := r_0) Tryz.underlying50 gsz185 rfl rfl nz19_4 (lt_of_get nz19_4 hz19_4)) ?_
  refine Zw rfl (q_field gfa185_1 rfl) ?_
  refine Zw rfl (q_elf (s := r_0) gone3 rfl hz19_4 rfl) ?_
  refine Zw rfl (q_move rfl) ?_
  refine Zw rfl (q_move rfl) ?_
  obtain ⟨z24_5, nz24_5, hz24_5, hS⟩ := at_s hS
  refine Zw rfl (q_ixm (s := r_0) Tryz.underlying50 gsz185 rfl rfl nz24_5 (lt_of_get nz24_5 hz24_5)) ?_
  refine Zw rfl (q_field gfa185_2 rfl) ?_
  refine Zw rfl (q_elf (s := r_0) gone9 rfl hz24_5 rfl) ?_
  refine Zw rfl (q_build (vs := [(0, str z14_3.path), (1, i64 z19_4.mode), (2, str z24_5.data)]) (cs := #[str z14_3.path, i64 z19_4.mode, str z24_5.data]) rfl (by kernel_rfl)) ?_
  refine VD.one rfl ?_
  refine VL.lit (α := Rectoref14File) (xs := [.tmp 27]) (vs := [.agg #[str z14_3.path, i64 z19_4.mode, str z24_5.data]]) [⟨z14_3.path, z19_4.mode, z24_5.data⟩] Tryz.underlying73 glit184 (by decide) rfl rfl rfl rfl (by decide) (fun _ _ _ _ => trivial) (by decide) (fun s28_6 hs28_6 => ?_) (by decide)
  replace hS := lt_to hs28_6 hS
  refine VL.back (D' := []) (by kernel_rfl) (Pend.nil) ?_
  refine VD.one rfl ?_
  obtain ⟨b29, hS⟩ := gd_s hS
  refine VL.app (s := out3_1) (r := s28_6) Tryz.underlying73 gapp184 (by decide) rfl Fo.out (ap1 b29) (ap2 b29 (by decide)) (by decide) (fun s29_8 hs29_8 => ?_)
  replace hS := lt_to hs29_8 hS
  refine VL.back (D' := []) (by kernel_rfl) (Pend.nil) ?_
  refine Zw rfl (q_assign rfl) ?_
  refine VD.to (fun _ _ h => h) ?_
  refine VC.keep (ρ' := [(0, r_0.val), (3, s29_8.val), (4, i64 i4_2)]) [0, 3, 4] rfl ?_
  refine Zr ?_
  refine Zm ?_
  obtain ⟨b10, hS⟩ := gd_s hS
  refine Zu (q_add rfl rfl b10) ?_
  refine Za ?_
  refine VL.rnd (s29_8, (i4_2 + 1)) [0, 3, 4] (fun _ _ h => h) (go2 hS hK1) rfl
 replace hS := up2 hS hK1
 refine Zx ?_
 refine Zq (Zr ?_)
 refine Zy ?_
 cases hS
 exact VC.ret (fin1 (.inr rfl) rfl rfl out3_1 rfl rfl (by (try dsimp only); exact InM.out) (by (try dsimp only); exact EntO.out))
theorem l15_Of_ct (l_0 : Sv IndexEntry) {r : List Rectoref14Entry} (hS : Sh.l15_Of l_0.l = some r) :
 Ct Tryz.prog 149 [l_0.val] l_0.ok (Ow.emp) (X := Sv Rectoref14Entry) (fun x => x.val) (fun x => r = x.l) (fun x => Mo.tt) (fun x => Sv.own x 219) := by
 refine Zo Tryz.func149 Tryz.ntmps149 fun c => ?_
 unfold Sh.l15_Of at hS
 refine Zq (Zr ?_)
 refine Zy ?_
 refine Zq (Zr ?_)
 refine Zy ?_
 refine Zq (Zq (Zr ?_))
 refine Zy ?_
 refine Zb ?_
 refine VC.nilO (⟨none, 0, []⟩ : Sv Rectoref14Entry) 219 ⟨rfl, rfl⟩ ?_
 refine VC.iter (S := Sv Rectoref14Entry × Int) (fun sg => (sg.1.l, sg.2)) (fun sg => [(0, l_0.val), (3, sg.1.val), (4, i64 sg.2)]) (fun sg => Mo.tt) (fun sg => Ow.star (Sv.own sg.1 219) (Ow.emp)) (⟨none, 0, []⟩, 0) [0, 3, 4] hS rfl ?_
 clear hS
 rintro ⟨out3_1, i4_2⟩ m1 y1 hS hK1
 refine Zq (Zq (Zr ?_))
 refine Zy ?_
 refine Zu (q_ln (s := l_0) Tryz.underlying51 rfl) ?_
 refine Zu (q_lss rfl rfl) ?_
 refine Zl ?_
 refine Zc hS (fun h9 hS => ?_) (fun h9 hS => ?_)
 ·
  refine Zk ?_
  refine Zq (Zb (Zq (Zr ?_)))
  refine Zy ?_
  obtain ⟨z14_3, nz14_3, hz14_3, hS⟩ := at_s hS
  refine Zu (q_ixm (s := l_0) Tryz.underlying51 gsz218 rfl rfl nz14_3 (lt_of_get nz14_3 hz14_3)) ?_
  refine Zu (q_els (s := l_0) gagg218 rfl rfl hz14_3) ?_
  refine VL.alloc (cs := [str [], i64 0, i64 0, str [], i64 0, i64 0]) (by kernel_rfl) (by decide) fun b5_4 => ?_
  refine Zv (vc := [str z14_3.path, i64 z14_3.stage, i64 z14_3.mode, str z14_3.data, i64 z14_3.time, i64 z14_3.size]) (cs' := [str z14_3.path, i64 z14_3.stage, i64 z14_3.mode, str z14_3.data, i64 z14_3.time, i64 z14_3.size]) rfl gsz218 ?_
  refine Zl ?_
  refine VC.keep (ρ' := [(0, l_0.val), (3, out3_1.val), (4, i64 i4_2), (5, ptr b5_4 0)]) [0, 3, 4, 5] rfl ?_
  refine Zr ?_
  refine Zm ?_
  refine Zu (q_field gfa218_0 rfl) ?_
  refine Zu (q_fe gone9 rfl rfl) ?_
  refine Zu (q_field gfa218_1 rfl) ?_
  refine Zu (q_fe gone3 rfl rfl) ?_
  refine Zu (q_field gfa218_2 rfl) ?_
  refine Zu (q_fe gone3 rfl rfl) ?_
  refine Zu (q_field gfa218_3 rfl) ?_
  refine Zu (q_fe gone9 rfl rfl) ?_
  refine Zu (q_field gfa218_4 rfl) ?_
  refine Zu (q_fe gone3 rfl rfl) ?_
  refine Zu (q_field gfa218_5 rfl) ?_
  refine Zu (q_fe gone3 rfl rfl) ?_
  refine Zu (q_build (vs := [(0, str z14_3.path), (1, i64 z14_3.stage), (2, i64 z14_3.mode), (3, str z14_3.data), (4, i64 z14_3.time), (5, i64 z14_3.size)]) (cs := #[str z14_3.path, i64 z14_3.stage, i64 z14_3.mode, str z14_3.data, i64 z14_3.time, i64 z14_3.size]) rfl (by kernel_rfl)) ?_
  refine VL.lit (α := Rectoref14Entry) (xs := [.tmp 29]) (vs := [.agg #[str z14_3.path, i64 z14_3.stage, i64 z14_3.mode, str z14_3.data, i64 z14_3.time, i64 z14_3.size]]) [⟨z14_3.path, z14_3.stage, z14_3.mode, z14_3.data, z14_3.time, z14_3.size⟩] Tryz.underlying74 glit219 (by decide) rfl rfl rfl rfl (by decide) (fun _ _ _ _ => trivial) (by decide) (fun s30_5 hs30_5 => ?_) (by decide)
  replace hS := lt_to hs30_5 hS
  obtain ⟨b31, hS⟩ := gd_s hS
  refine VL.app (s := out3_1) (r := s30_5) Tryz.underlying74 gapp219 (by decide) rfl Fo.out (ap1 b31) (ap2 b31 (by decide)) (by decide) (fun s31_7 hs31_7 => ?_)
  replace hS := lt_to hs31_7 hS
  refine Zy ?_
  refine VC.keep (ρ' := [(0, l_0.val), (3, s31_7.val), (4, i64 i4_2)]) [0, 3, 4] rfl ?_
  refine Zr ?_
  refine Zm ?_
  obtain ⟨b11, hS⟩ := gd_s hS
  refine Zu (q_add rfl rfl b11) ?_
  refine Za ?_
  refine VL.rnd (s31_7, (i4_2 + 1)) [0, 3, 4] (fun _ _ h => h) (go2 hS hK1) rfl
 replace hS := up2 hS hK1
 refine Zx ?_
 refine Zq (Zr ?_)
 refine Zy ?_
 cases hS
 exact VC.ret (fin1 (.inr rfl) rfl rfl out3_1 rfl rfl (by (try dsimp only); exact InM.out) (by (try dsimp only); exact EntO.out))
theorem l25_refs_ct (l_0 : Sv NamesRef) {r : List Rectoref25Ref} (hS : Sh.l25_refs l_0.l = some r) :
 Ct Tryz.prog 150 [l_0.val] l_0.ok (Ow.emp) (X := Sv Rectoref25Ref) (fun x => x.val) (fun x => r = x.l) (fun x => Mo.tt) (fun x => Sv.own x 205) := by
 refine Zo Tryz.func150 Tryz.ntmps150 fun c => ?_
 unfold Sh.l25_refs at hS
 refine Zq (Zr ?_)
 refine Zy ?_
 refine Zq (Zr ?_)
 refine Zy ?_
 refine Zq (Zq (Zr ?_))
 refine Zy ?_
 refine Zb ?_
 refine VC.nilO (⟨none, 0, []⟩ : Sv Rectoref25Ref) 205 ⟨rfl, rfl⟩ ?_
 refine VC.iter (S := Sv Rectoref25Ref × Int) (fun sg => (sg.1.l, sg.2)) (fun sg => [(0, l_0.val), (3, sg.1.val), (4, i64 sg.2)]) (fun sg => Mo.tt) (fun sg => Ow.star (Sv.own sg.1 205) (Ow.emp)) (⟨none, 0, []⟩, 0) [0, 3, 4] hS rfl ?_
 clear hS
 rintro ⟨out3_1, i4_2⟩ m1 y1 hS hK1
 refine Zq (Zq (Zr ?_))
 refine Zy ?_
 refine Zu (q_ln (s := l_0) Tryz.underlying52 rfl) ?_
 refine Zu (q_lss rfl rfl) ?_
 refine Zl ?_
 refine Zc hS (fun h8 hS => ?_) (fun h8 hS => ?_)
 ·
  refine Zk ?_
  refine Zq (Zb ?_)
  refine VC.draw [(0, true), (1, true), (2, true), (3, true), (4, true), (5, true), (6, true), (7, true), (8, true), (9, true), (10, true), (11, true), (12, false), (13, false), (14, true)] mixed (by kernel_rfl) (by kernel_rfl) (by kernel_rfl) ?_
  refine Zw rfl (q_move rfl) ?_
  refine Zw rfl (q_move rfl) ?_
  refine Zw rfl (q_move rfl) ?_
  obtain ⟨z14_3, nz14_3, hz14_3, hS⟩ := at_s hS
  refine Zw rfl (q_ixm (s := l_0) Tryz.underlying52 gsz216 rfl rfl nz14_3 (lt_of_get nz14_3 hz14_3)) ?_
  refine Zw rfl (q_field gfa216_0 rfl) ?_
  refine Zw rfl (q_elf (s := l_0) gone9 rfl hz14_3 rfl) ?_
  refine Zw rfl (q_move rfl) ?_
  refine Zw rfl (q_move rfl) ?_
  obtain ⟨z19_4, nz19_4, hz19_4, hS⟩ := at_s hS
  refine Zw rfl (q_ixm (s := l_0) Tryz.underlying52 gsz216 rfl rfl nz19_4 (lt_of_get nz19_4 hz19_4)) ?_
  refine Zw rfl (q_field gfa216_1 rfl) ?_
  refine Zw rfl (q_elf (s := l_0) gone3 rfl hz19_4 rfl) ?_
  refine Zw rfl (q_build (vs := [(0, str z14_3.name), (1, i64 z19_4.commit)]) (cs := #[str z14_3.name, i64 z19_4.commit]) rfl (by kernel_rfl)) ?_
  refine VD.one rfl ?_
  refine VL.lit (α := Rectoref25Ref) (xs := [.tmp 22]) (vs := [.agg #[str z14_3.name, i64 z19_4.commit]]) [⟨z14_3.name, z19_4.commit⟩] Tryz.underlying75 glit205 (by decide) rfl rfl rfl rfl (by decide) (fun _ _ _ _ => trivial) (by decide) (fun s23_5 hs23_5 => ?_) (by decide)
  replace hS := lt_to hs23_5 hS
  refine VL.back (D' := []) (by kernel_rfl) (Pend.nil) ?_
  refine VD.one rfl ?_
  obtain ⟨b24, hS⟩ := gd_s hS
  refine VL.app (s := out3_1) (r := s23_5) Tryz.underlying75 gapp205 (by decide) rfl Fo.out (ap1 b24) (ap2 b24 (by decide)) (by decide) (fun s24_7 hs24_7 => ?_)
  replace hS := lt_to hs24_7 hS
  refine VL.back (D' := []) (by kernel_rfl) (Pend.nil) ?_
  refine Zw rfl (q_assign rfl) ?_
  refine VD.to (fun _ _ h => h) ?_
  refine VC.keep (ρ' := [(0, l_0.val), (3, s24_7.val), (4, i64 i4_2)]) [0, 3, 4] rfl ?_
  refine Zr ?_
  refine Zm ?_
  obtain ⟨b10, hS⟩ := gd_s hS
  refine Zu (q_add rfl rfl b10) ?_
  refine Za ?_
  refine VL.rnd (s24_7, (i4_2 + 1)) [0, 3, 4] (fun _ _ h => h) (go2 hS hK1) rfl
 replace hS := up2 hS hK1
 refine Zx ?_
 refine Zq (Zr ?_)
 refine Zy ?_
 cases hS
 exact VC.ret (fin1 (.inr rfl) rfl rfl out3_1 rfl rfl (by (try dsimp only); exact InM.out) (by (try dsimp only); exact EntO.out))
theorem l25_stash_ct (s_0 : Sv ShelfShelf) {r : List Rectoref25ShelfP} (hS : Sh.l25_stash (s_0.l.map ShelfShelf.pl) = some r) :
 Ct Tryz.prog 151 [s_0.val] s_0.ok (Ow.emp) (X := Sv Rectoref25Shelf) (fun x => x.val) (fun x => r = (x.l.map Rectoref25Shelf.pl)) (fun x => x.ok) (fun x => Ow.emp) := by
 refine Zo Tryz.func151 Tryz.ntmps151 fun c => ?_
 unfold Sh.l25_stash at hS
 refine Zq (Zr ?_)
 refine Zy ?_
 refine Zq (Zr ?_)
 refine Zy ?_
 refine Zq (Zq (Zr ?_))
 refine Zy ?_
 refine Zb ?_
 refine VC.nilO (⟨none, 0, []⟩ : Sv Rectoref25Shelf) 209 ⟨rfl, rfl⟩ ?_
 refine VC.maNil (s := (⟨none, 0, []⟩ : Sv Rectoref25Shelf)) rfl ?_
 refine VC.iter (S := Sv Rectoref25Shelf × Int) (fun sg => ((sg.1.l.map Rectoref25Shelf.pl), sg.2)) (fun sg => [(0, s_0.val), (3, sg.1.val), (4, i64 sg.2)]) (fun sg => (MAl sg.1.l)) (fun sg => Ow.star (Sv.own sg.1 209) (Ow.emp)) (⟨none, 0, []⟩, 0) [0, 3, 4] hS rfl ?_
 clear hS
 rintro ⟨out3_1, i4_2⟩ m1 y1 hS hK1
 refine Zq (Zq (Zr ?_))
 refine Zy ?_
 refine Zu (q_lnm ShelfShelf.pl (s := s_0) Tryz.underlying59 rfl) ?_
 refine Zu (q_lss rfl rfl) ?_
 refine Zl ?_
 refine Zc hS (fun h8 hS => ?_) (fun h8 hS => ?_)
 ·
  refine Zk ?_
  refine Zq (Zb ?_)
  refine VC.draw [(0, true), (1, true), (2, true), (3, true), (4, true), (5, true), (6, true), (7, true), (8, true), (9, true), (10, true), (12, true), (13, true), (14, true), (15, true), (16, true), (18, true), (19, true), (20, true), (21, true), (22, true), (11, false), (17, false), (23, true), (24, false), (25, false), (26, true)] mixed (by kernel_rfl) (by kernel_rfl) (by kernel_rfl) ?_
  refine Zw rfl (q_move rfl) ?_
  refine Zw rfl (q_move rfl) ?_
  refine Zw rfl (q_move rfl) ?_
  obtain ⟨z14_3, nz14_3, hz14_3, hS⟩ := atm_s hS
  refine VD.deep z14_3.m hz14_3 (fun _ q => q) ?_
  refine Zw rfl (q_ixm (s := s_0) Tryz.underlying59 gsz155 rfl rfl nz14_3 (lt_of_get nz14_3 hz14_3)) ?_
  refine Zw rfl (q_field gfa155_0 rfl) ?_
  refine Zw rfl (q_elf (s := s_0) gone3 rfl hz14_3 rfl) ?_
  refine Zw rfl (q_move rfl) ?_
  refine Zw rfl (q_move rfl) ?_
  obtain ⟨z19_4, nz19_4, hz19_4, hS⟩ := atm_s hS
  refine VD.deep z19_4.m hz19_4 (fun _ q => q) ?_
  refine Zw rfl (q_ixm (s := s_0) Tryz.underlying59 gsz155 rfl rfl nz19_4 (lt_of_get nz19_4 hz19_4)) ?_
  refine Zw rfl (q_field gfa155_1 rfl) ?_
  refine Zw rfl (q_elf (s := s_0) gone50 rfl hz19_4 rfl) ?_
  refine Zw rfl (q_move rfl) ?_
  refine Zw rfl (q_move rfl) ?_
  obtain ⟨z25_5, nz25_5, hz25_5, hS⟩ := atm_s hS
  refine VD.deep z25_5.m hz25_5 (fun _ q => q) ?_
  refine Zw rfl (q_ixm (s := s_0) Tryz.underlying59 gsz155 rfl rfl nz25_5 (lt_of_get nz25_5 hz25_5)) ?_
  refine Zw rfl (q_field gfa155_2 rfl) ?_
  refine Zw rfl (q_elf (s := s_0) gone50 rfl hz25_5 rfl) ?_
  refine Zw rfl (q_move rfl) ?_
  refine Zw rfl (q_move rfl) ?_
  obtain ⟨z31_6, nz31_6, hz31_6, hS⟩ := atm_s hS
  refine VD.deep z31_6.m hz31_6 (fun _ q => q) ?_
  refine Zw rfl (q_ixm (s := s_0) Tryz.underlying59 gsz155 rfl rfl nz31_6 (lt_of_get nz31_6 hz31_6)) ?_
  refine Zw rfl (q_field gfa155_3 rfl) ?_
  refine Zw rfl (q_elf (s := s_0) gone9 rfl hz31_6 rfl) ?_
  refine VD.one rfl ?_
  obtain ⟨y22_7, ey22_7, hS⟩ := bd_s hS
  refine VL.callO (l14_Of_ct z19_4.index ey22_7) rfl (by decide) ?_
  rintro q22_7_0 rfl
  try dsimp only
  refine VL.back (D' := [(22, str z31_6.text), (21, ptr s_0.b (s_0.o + (i4_2).toNat * Dat.sz ShelfShelf + 3)), (20, ptr s_0.b (s_0.o + (i4_2).toNat * Dat.sz ShelfShelf + 0)), (16, z25_5.work.val), (15, ptr s_0.b (s_0.o + (i4_2).toNat * Dat.sz ShelfShelf + 2)), (14, ptr s_0.b (s_0.o + (i4_2).toNat * Dat.sz ShelfShelf + 0)), (5, i64 z14_3.base), (4, ptr s_0.b (s_0.o + (i4_2).toNat * Dat.sz ShelfShelf + 0)), (3, ptr s_0.b (s_0.o + (i4_2).toNat * Dat.sz ShelfShelf + 0))]) (by kernel_rfl) (Pend.cons rfl (q_elf (s := s_0) gone9 rfl hz31_6 rfl) (Pend.cons rfl (q_field gfa155_3 rfl) (Pend.cons rfl (q_ixm (s := s_0) Tryz.underlying59 gsz155 rfl rfl nz31_6 (lt_of_get nz31_6 hz31_6)) (Pend.cons rfl (q_elf (s := s_0) gone50 rfl hz25_5 rfl) (Pend.cons rfl (q_field gfa155_2 rfl) (Pend.cons rfl (q_ixm (s := s_0) Tryz.underlying59 gsz155 rfl rfl nz25_5 (lt_of_get nz25_5 hz25_5)) (Pend.cons rfl (q_elf (s := s_0) gone3 rfl hz14_3 rfl) (Pend.cons rfl (q_field gfa155_0 rfl) (Pend.cons rfl (q_ixm (s := s_0) Tryz.underlying59 gsz155 rfl rfl nz14_3 (lt_of_get nz14_3 hz14_3)) (Pend.nil)))))))))) ?_
  refine VD.one rfl ?_
  obtain ⟨y28_8, ey28_8, hS⟩ := bd_s hS
  refine VL.callO (l14_Of_ct z25_5.work ey28_8) rfl (by decide) ?_
  rintro q28_8_0 rfl
  try dsimp only
  refine VL.back (D' := [(22, str z31_6.text), (21, ptr s_0.b (s_0.o + (i4_2).toNat * Dat.sz ShelfShelf + 3)), (20, ptr s_0.b (s_0.o + (i4_2).toNat * Dat.sz ShelfShelf + 0)), (5, i64 z14_3.base), (4, ptr s_0.b (s_0.o + (i4_2).toNat * Dat.sz ShelfShelf + 0)), (3, ptr s_0.b (s_0.o + (i4_2).toNat * Dat.sz ShelfShelf + 0))]) (by kernel_rfl) (Pend.cons rfl (q_elf (s := s_0) gone9 rfl hz31_6 rfl) (Pend.cons rfl (q_field gfa155_3 rfl) (Pend.cons rfl (q_ixm (s := s_0) Tryz.underlying59 gsz155 rfl rfl nz31_6 (lt_of_get nz31_6 hz31_6)) (Pend.cons rfl (q_elf (s := s_0) gone3 rfl hz14_3 rfl) (Pend.cons rfl (q_field gfa155_0 rfl) (Pend.cons rfl (q_ixm (s := s_0) Tryz.underlying59 gsz155 rfl rfl nz14_3 (lt_of_get nz14_3 hz14_3)) (Pend.nil))))))) ?_
  refine Zw rfl (q_build (vs := [(0, i64 z14_3.base), (1, q22_7_0.val), (2, q28_8_0.val), (3, str z31_6.text)]) (cs := #[i64 z14_3.base, q22_7_0.val, q28_8_0.val, str z31_6.text]) rfl (by kernel_rfl)) ?_
  refine VD.one rfl ?_
  refine VL.shut q22_7_0 184 (fun _ _ _ _ => trivial) ?_
  refine VL.shut q28_8_0 184 (fun _ _ _ _ => trivial) ?_
  refine VL.lit (α := Rectoref25Shelf) (xs := [.tmp 34]) (vs := [.agg #[i64 z14_3.base, q22_7_0.val, q28_8_0.val, str z31_6.text]]) [⟨z14_3.base, q22_7_0, q28_8_0, z31_6.text⟩] Tryz.underlying80 glit209 (by decide) rfl rfl rfl rfl (by decide) (fun h m => List.forall_mem_cons.2 ⟨InM.out (X := (q22_7_0.ok.and q28_8_0.ok)) h m, fun _ h => by cases h⟩) (by decide) (fun s35_9 hs35_9 => ?_) (by decide)
  replace hS := lt_to (congrArg (List.map Rectoref25Shelf.pl) hs35_9) hS
  refine VL.back (D' := []) (by kernel_rfl) (Pend.nil) ?_
  refine VD.one rfl ?_
  obtain ⟨b36, hS⟩ := gd_s hS
  refine VL.app (s := out3_1) (r := s35_9) Tryz.underlying80 gapp209 (by decide) rfl Fo.out (ap1 (apm b36)) (ap2 (apm b36) (by decide)) (by decide) (fun s36_11 hs36_11 => ?_)
  replace hS := lt_to ((congrArg (List.map Rectoref25Shelf.pl) hs36_11).trans List.map_append) hS
  refine VL.maApp hs36_11 ?_
  refine VL.back (D' := []) (by kernel_rfl) (Pend.nil) ?_
  refine Zw rfl (q_assign rfl) ?_
  refine VD.to (fun _ _ h => h) ?_
  refine VC.keep (ρ' := [(0, s_0.val), (3, s36_11.val), (4, i64 i4_2)]) [0, 3, 4] rfl ?_
  refine Zr ?_
  refine Zm ?_
  obtain ⟨b10, hS⟩ := gd_s hS
  refine Zu (q_add rfl rfl b10) ?_
  refine Za ?_
  refine VL.rnd (s36_11, (i4_2 + 1)) [0, 3, 4] (fun _ _ h => h) (go2 hS hK1) rfl
 replace hS := up2 hS hK1
 refine Zx ?_
 refine Zq (Zr ?_)
 refine Zy ?_
 refine VC.shut out3_1 209 (fun h m => InM.out (X := MAl out3_1.l) h m) ?_
 cases hS
 exact VC.ret (fin1 (.inr rfl) rfl rfl out3_1 rfl rfl (by (try dsimp only); exact InM.out) (fun _ _ => trivial))
theorem l21_Of_ct (l_0 : Sv TodoStep) {r : List Rectoref17Step} (hS : Sh.l21_Of l_0.l = some r) :
 Ct Tryz.prog 152 [l_0.val] l_0.ok (Ow.emp) (X := Sv Rectoref17Step) (fun x => x.val) (fun x => r = x.l) (fun x => Mo.tt) (fun x => Sv.own x 316) := by
 refine Zo Tryz.func152 Tryz.ntmps152 fun c => ?_
 unfold Sh.l21_Of at hS
 refine Zq (Zr ?_)
 refine Zy ?_
 refine Zq (Zr ?_)
 refine Zy ?_
 refine Zq (Zq (Zr ?_))
 refine Zy ?_
 refine Zb ?_
 refine VC.nilO (⟨none, 0, []⟩ : Sv Rectoref17Step) 316 ⟨rfl, rfl⟩ ?_
 refine VC.iter (S := Sv Rectoref17Step × Int) (fun sg => (sg.1.l, sg.2)) (fun sg => [(0, l_0.val), (3, sg.1.val), (4, i64 sg.2)]) (fun sg => Mo.tt) (fun sg => Ow.star (Sv.own sg.1 316) (Ow.emp)) (⟨none, 0, []⟩, 0) [0, 3, 4] hS rfl ?_
 clear hS
 rintro ⟨out3_1, i4_2⟩ m1 y1 hS hK1
 refine Zq (Zq (Zr ?_))
 refine Zy ?_
 refine Zu (q_ln (s := l_0) Tryz.underlying55 rfl) ?_
 refine Zu (q_lss rfl rfl) ?_
 refine Zl ?_
 refine Zc hS (fun h8 hS => ?_) (fun h8 hS => ?_)
 ·
  refine Zk ?_
  refine Zq (Zb ?_)
  refine VC.draw [(0, true), (1, true), (2, true), (3, true), (4, true), (5, true), (6, true), (7, true), (8, true), (9, true), (10, true), (11, true), (12, true), (13, true), (14, true), (15, true), (16, true), (17, false), (18, false), (19, true)] mixed (by kernel_rfl) (by kernel_rfl) (by kernel_rfl) ?_
  refine Zw rfl (q_move rfl) ?_
  refine Zw rfl (q_move rfl) ?_
  refine Zw rfl (q_move rfl) ?_
  obtain ⟨z14_3, nz14_3, hz14_3, hS⟩ := at_s hS
  refine Zw rfl (q_ixm (s := l_0) Tryz.underlying55 gsz278 rfl rfl nz14_3 (lt_of_get nz14_3 hz14_3)) ?_
  refine Zw rfl (q_field gfa278_0 rfl) ?_
  refine Zw rfl (q_elf (s := l_0) gone9 rfl hz14_3 rfl) ?_
  refine Zw rfl (q_move rfl) ?_
  refine Zw rfl (q_move rfl) ?_
  obtain ⟨z19_4, nz19_4, hz19_4, hS⟩ := at_s hS
  refine Zw rfl (q_ixm (s := l_0) Tryz.underlying55 gsz278 rfl rfl nz19_4 (lt_of_get nz19_4 hz19_4)) ?_
  refine Zw rfl (q_field gfa278_1 rfl) ?_
  refine Zw rfl (q_elf (s := l_0) gone3 rfl hz19_4 rfl) ?_
  refine Zw rfl (q_move rfl) ?_
  refine Zw rfl (q_move rfl) ?_
  obtain ⟨z24_5, nz24_5, hz24_5, hS⟩ := at_s hS
  refine Zw rfl (q_ixm (s := l_0) Tryz.underlying55 gsz278 rfl rfl nz24_5 (lt_of_get nz24_5 hz24_5)) ?_
  refine Zw rfl (q_field gfa278_2 rfl) ?_
  refine Zw rfl (q_elf (s := l_0) gone9 rfl hz24_5 rfl) ?_
  refine Zw rfl (q_build (vs := [(0, str z14_3.verb), (1, i64 z19_4.commit), (2, str z24_5.text)]) (cs := #[str z14_3.verb, i64 z19_4.commit, str z24_5.text]) rfl (by kernel_rfl)) ?_
  refine VD.one rfl ?_
  refine VL.lit (α := Rectoref17Step) (xs := [.tmp 27]) (vs := [.agg #[str z14_3.verb, i64 z19_4.commit, str z24_5.text]]) [⟨z14_3.verb, z19_4.commit, z24_5.text⟩] Tryz.underlying77 glit316 (by decide) rfl rfl rfl rfl (by decide) (fun _ _ _ _ => trivial) (by decide) (fun s28_6 hs28_6 => ?_) (by decide)
  replace hS := lt_to hs28_6 hS
  refine VL.back (D' := []) (by kernel_rfl) (Pend.nil) ?_
  refine VD.one rfl ?_
  obtain ⟨b29, hS⟩ := gd_s hS
  refine VL.app (s := out3_1) (r := s28_6) Tryz.underlying77 gapp316 (by decide) rfl Fo.out (ap1 b29) (ap2 b29 (by decide)) (by decide) (fun s29_8 hs29_8 => ?_)
  replace hS := lt_to hs29_8 hS
  refine VL.back (D' := []) (by kernel_rfl) (Pend.nil) ?_
  refine Zw rfl (q_assign rfl) ?_
  refine VD.to (fun _ _ h => h) ?_
  refine VC.keep (ρ' := [(0, l_0.val), (3, s29_8.val), (4, i64 i4_2)]) [0, 3, 4] rfl ?_
  refine Zr ?_
  refine Zm ?_
  obtain ⟨b10, hS⟩ := gd_s hS
  refine Zu (q_add rfl rfl b10) ?_
  refine Za ?_
  refine VL.rnd (s29_8, (i4_2 + 1)) [0, 3, 4] (fun _ _ h => h) (go2 hS hK1) rfl
 replace hS := up2 hS hK1
 refine Zx ?_
 refine Zq (Zr ?_)
 refine Zy ?_
 cases hS
 exact VC.ret (fin1 (.inr rfl) rfl rfl out3_1 rfl rfl (by (try dsimp only); exact InM.out) (by (try dsimp only); exact EntO.out))
theorem l25_Now_ct (n_0 : StateNow) {r : Rectoref25NowP} (hS : Sh.l25_Now n_0.pl = some r) :
 Ct Tryz.prog 69 [.agg #[n_0.work.val, n_0.index.val, n_0.refs.val, str n_0.head_branch, i64 n_0.head_commit, str n_0.seq_kind, i64 n_0.seq_other, str n_0.seq_text, n_0.seq_doing.val, n_0.seq_todo.val, i64 n_0.seq_made, str n_0.seq_branch, str n_0.seq_head_branch, i64 n_0.seq_head_commit, n_0.seq_index.val, n_0.seq_work.val, n_0.stash.val]] (n_0.work.ok.and (n_0.index.ok.and (n_0.refs.ok.and (n_0.seq_doing.ok.and (n_0.seq_todo.ok.and (n_0.seq_index.ok.and (n_0.seq_work.ok.and n_0.stash.ok))))))) (Ow.emp) (X := Rectoref25Now) (fun x => .agg (Dat.enc x).toArray) (fun x => r = x.pl) (fun x => x.m) (fun x => Ow.emp) := by
 refine Zo Tryz.func69 Tryz.ntmps69 fun c => ?_
 unfold Sh.l25_Now at hS
 refine Zq (Zr ?_)
 refine VL.box (cs := [n_0.work.val, n_0.index.val, n_0.refs.val, str n_0.head_branch, i64 n_0.head_commit, str n_0.seq_kind, i64 n_0.seq_other, str n_0.seq_text, n_0.seq_doing.val, n_0.seq_todo.val, i64 n_0.seq_made, str n_0.seq_branch, str n_0.seq_head_branch, i64 n_0.seq_head_commit, n_0.seq_index.val, n_0.seq_work.val, n_0.stash.val]) rfl rfl (by decide) fun b1_1 => ?_
 refine VL.alloc (cs := [.slice none 0 0, .slice none 0 0, .slice none 0 0, str [], i64 0, str [], i64 0, str [], .slice none 0 0, .slice none 0 0, i64 0, str [], str [], i64 0, .slice none 0 0, .slice none 0 0, .slice none 0 0]) (by kernel_rfl) (by decide) fun b2_2 => ?_
 refine Zl ?_
 refine Zq (Zr ?_)
 refine Zu (q_field gfa61_4 rfl) ?_
 refine Zu (q_fep (j := 5) (n := 11) gagg57 rfl rfl rfl) ?_
 refine VL.alloc (cs := [str [], i64 0, str [], .slice none 0 0, .slice none 0 0, i64 0, str [], str [], i64 0, .slice none 0 0, .slice none 0 0]) (by kernel_rfl) (by decide) fun b3_3 => ?_
 refine Zv (vc := [str n_0.seq_kind, i64 n_0.seq_other, str n_0.seq_text, n_0.seq_doing.val, n_0.seq_todo.val, i64 n_0.seq_made, str n_0.seq_branch, str n_0.seq_head_branch, i64 n_0.seq_head_commit, n_0.seq_index.val, n_0.seq_work.val]) (cs' := [str n_0.seq_kind, i64 n_0.seq_other, str n_0.seq_text, n_0.seq_doing.val, n_0.seq_todo.val, i64 n_0.seq_made, str n_0.seq_branch, str n_0.seq_head_branch, i64 n_0.seq_head_commit, n_0.seq_index.val, n_0.seq_work.val]) rfl gsz57 ?_
 refine Zl ?_
 refine Zq ?_
 refine VC.draw [(0, true), (1, true), (3, true), (4, true), (6, true), (7, true), (9, true), (10, true), (11, true), (12, true), (13, true), (14, true), (15, true), (16, true), (17, true), (19, true), (20, true), (21, true), (22, true), (23, true), (24, true), (25, true), (26, true), (28, true), (29, true), (31, true), (32, true), (33, true), (34, true), (35, true), (36, true), (37, true), (38, true), (39, true), (40, true), (41, true), (42, true), (43, true), (45, true), (46, true), (2, false), (5, false), (8, false), (18, false), (27, false), (30, false), (44, false), (47, false), (48, true), (49, true), (50, false)] mixed (by kernel_rfl) (by kernel_rfl) (by kernel_rfl) ?_
 refine Zw rfl (q_field gfa61_0 rfl) ?_
 refine Zw rfl (q_fe gone50 rfl rfl) ?_
 refine Zw rfl (q_field gfa61_1 rfl) ?_
 refine Zw rfl (q_fe gone51 rfl rfl) ?_
 refine Zw rfl (q_field gfa61_2 rfl) ?_
 refine Zw rfl (q_fe gone52 rfl rfl) ?_
 refine Zw rfl (q_field gfa61_3 rfl) ?_
 refine Zw rfl (q_field gfa54_0 rfl) ?_
 refine Zw rfl (q_fe gone9 rfl rfl) ?_
 refine Zw rfl (q_field gfa61_3 rfl) ?_
 refine Zw rfl (q_field gfa54_1 rfl) ?_
 refine Zw rfl (q_fe gone3 rfl rfl) ?_
 refine Zw rfl (q_build (vs := [(0, str n_0.head_branch), (1, i64 n_0.head_commit)]) (cs := #[str n_0.head_branch, i64 n_0.head_commit]) rfl (by kernel_rfl)) ?_
 refine Zw rfl (q_field gfa61_5 rfl) ?_
 refine Zw rfl (q_fe gone59 rfl rfl) ?_
 refine Zw rfl (q_field gfa57_0 rfl) ?_
 refine Zw rfl (q_fe gone9 rfl rfl) ?_
 refine Zw rfl (q_field gfa57_1 rfl) ?_
 refine Zw rfl (q_fe gone3 rfl rfl) ?_
 refine Zw rfl (q_field gfa57_2 rfl) ?_
 refine Zw rfl (q_fe gone9 rfl rfl) ?_
 refine Zw rfl (q_field gfa57_3 rfl) ?_
 refine Zw rfl (q_fe gone55 rfl rfl) ?_
 refine Zw rfl (q_field gfa57_4 rfl) ?_
 refine Zw rfl (q_fe gone55 rfl rfl) ?_
 refine Zw rfl (q_field gfa57_5 rfl) ?_
 refine Zw rfl (q_fe gone3 rfl rfl) ?_
 refine Zw rfl (q_field gfa57_6 rfl) ?_
 refine Zw rfl (q_fe gone9 rfl rfl) ?_
 refine Zw rfl (q_field gfa57_7 rfl) ?_
 refine Zw rfl (q_field gfa54_0 rfl) ?_
 refine Zw rfl (q_fe gone9 rfl rfl) ?_
 refine Zw rfl (q_field gfa57_7 rfl) ?_
 refine Zw rfl (q_field gfa54_1 rfl) ?_
 refine Zw rfl (q_fe gone3 rfl rfl) ?_
 refine Zw rfl (q_build (vs := [(0, str n_0.seq_head_branch), (1, i64 n_0.seq_head_commit)]) (cs := #[str n_0.seq_head_branch, i64 n_0.seq_head_commit]) rfl (by kernel_rfl)) ?_
 refine Zw rfl (q_field gfa57_8 rfl) ?_
 refine Zw rfl (q_fe gone51 rfl rfl) ?_
 refine Zw rfl (q_field gfa57_9 rfl) ?_
 refine Zw rfl (q_fe gone50 rfl rfl) ?_
 refine VD.one rfl ?_
 obtain ⟨y8_4, ey8_4, hS⟩ := bd_s hS
 refine VL.callO (l14_Of_ct n_0.work ey8_4) rfl (by decide) ?_
 rintro q8_4_0 rfl
 try dsimp only
 refine VL.back (D' := [(46, n_0.seq_work.val), (45, ptr b3_3 10), (43, n_0.seq_index.val), (42, ptr b3_3 9), (41, .agg #[str n_0.seq_head_branch, i64 n_0.seq_head_commit]), (40, i64 n_0.seq_head_commit), (39, ptr b3_3 8), (38, ptr b3_3 7), (37, str n_0.seq_head_branch), (36, ptr b3_3 7), (35, ptr b3_3 7), (34, str n_0.seq_branch), (33, ptr b3_3 6), (32, i64 n_0.seq_made), (31, ptr b3_3 5), (29, n_0.seq_todo.val), (28, ptr b3_3 4), (26, n_0.seq_doing.val), (25, ptr b3_3 3), (24, str n_0.seq_text), (23, ptr b3_3 2), (22, i64 n_0.seq_other), (21, ptr b3_3 1), (20, str n_0.seq_kind), (19, ptr b3_3 0), (17, n_0.stash.val), (16, ptr b1_1 16), (15, .agg #[str n_0.head_branch, i64 n_0.head_commit]), (14, i64 n_0.head_commit), (13, ptr b1_1 4), (12, ptr b1_1 3), (11, str n_0.head_branch), (10, ptr b1_1 3), (9, ptr b1_1 3), (7, n_0.refs.val), (6, ptr b1_1 2), (4, n_0.index.val), (3, ptr b1_1 1)]) (by kernel_rfl) (Pend.cons rfl (q_fe gone50 rfl rfl) (Pend.cons rfl (q_field gfa57_9 rfl) (Pend.cons rfl (q_fe gone51 rfl rfl) (Pend.cons rfl (q_field gfa57_8 rfl) (Pend.cons rfl (q_build (vs := [(0, str n_0.seq_head_branch), (1, i64 n_0.seq_head_commit)]) (cs := #[str n_0.seq_head_branch, i64 n_0.seq_head_commit]) rfl (by kernel_rfl)) (Pend.cons rfl (q_fe gone3 rfl rfl) (Pend.cons rfl (q_field gfa54_1 rfl) (Pend.cons rfl (q_field gfa57_7 rfl) (Pend.cons rfl (q_fe gone9 rfl rfl) (Pend.cons rfl (q_field gfa54_0 rfl) (Pend.cons rfl (q_field gfa57_7 rfl) (Pend.cons rfl (q_fe gone9 rfl rfl) (Pend.cons rfl (q_field gfa57_6 rfl) (Pend.cons rfl (q_fe gone3 rfl rfl) (Pend.cons rfl (q_field gfa57_5 rfl) (Pend.cons rfl (q_fe gone55 rfl rfl) (Pend.cons rfl (q_field gfa57_4 rfl) (Pend.cons rfl (q_fe gone55 rfl rfl) (Pend.cons rfl (q_field gfa57_3 rfl) (Pend.cons rfl (q_fe gone9 rfl rfl) (Pend.cons rfl (q_field gfa57_2 rfl) (Pend.cons rfl (q_fe gone3 rfl rfl) (Pend.cons rfl (q_field gfa57_1 rfl) (Pend.cons rfl (q_fe gone9 rfl rfl) (Pend.cons rfl (q_field gfa57_0 rfl) (Pend.cons rfl (q_fe gone59 rfl rfl) (Pend.cons rfl (q_field gfa61_5 rfl) (Pend.cons rfl (q_build (vs := [(0, str n_0.head_branch), (1, i64 n_0.head_commit)]) (cs := #[str n_0.head_branch, i64 n_0.head_commit]) rfl (by kernel_rfl)) (Pend.cons rfl (q_fe gone3 rfl rfl) (Pend.cons rfl (q_field gfa54_1 rfl) (Pend.cons rfl (q_field gfa61_3 rfl) (Pend.cons rfl (q_fe gone9 rfl rfl) (Pend.cons rfl (q_field gfa54_0 rfl) (Pend.cons rfl (q_field gfa61_3 rfl) (Pend.cons rfl (q_fe gone52 rfl rfl) (Pend.cons rfl (q_field gfa61_2 rfl) (Pend.cons rfl (q_fe gone51 rfl rfl) (Pend.cons rfl (q_field gfa61_1 rfl) (Pend.nil))))))))))))))))))))))))))))))))))))))) ?_
 refine VD.one rfl ?_
 obtain ⟨y11_5, ey11_5, hS⟩ := bd_s hS
 refine VL.callO (l15_Of_ct n_0.index ey11_5) rfl (by decide) ?_
 rintro q11_5_0 rfl
 try dsimp only
 refine VL.back (D' := [(46, n_0.seq_work.val), (45, ptr b3_3 10), (43, n_0.seq_index.val), (42, ptr b3_3 9), (41, .agg #[str n_0.seq_head_branch, i64 n_0.seq_head_commit]), (40, i64 n_0.seq_head_commit), (39, ptr b3_3 8), (38, ptr b3_3 7), (37, str n_0.seq_head_branch), (36, ptr b3_3 7), (35, ptr b3_3 7), (34, str n_0.seq_branch), (33, ptr b3_3 6), (32, i64 n_0.seq_made), (31, ptr b3_3 5), (29, n_0.seq_todo.val), (28, ptr b3_3 4), (26, n_0.seq_doing.val), (25, ptr b3_3 3), (24, str n_0.seq_text), (23, ptr b3_3 2), (22, i64 n_0.seq_other), (21, ptr b3_3 1), (20, str n_0.seq_kind), (19, ptr b3_3 0), (17, n_0.stash.val), (16, ptr b1_1 16), (15, .agg #[str n_0.head_branch, i64 n_0.head_commit]), (14, i64 n_0.head_commit), (13, ptr b1_1 4), (12, ptr b1_1 3), (11, str n_0.head_branch), (10, ptr b1_1 3), (9, ptr b1_1 3), (7, n_0.refs.val), (6, ptr b1_1 2)]) (by kernel_rfl) (Pend.cons rfl (q_fe gone50 rfl rfl) (Pend.cons rfl (q_field gfa57_9 rfl) (Pend.cons rfl (q_fe gone51 rfl rfl) (Pend.cons rfl (q_field gfa57_8 rfl) (Pend.cons rfl (q_build (vs := [(0, str n_0.seq_head_branch), (1, i64 n_0.seq_head_commit)]) (cs := #[str n_0.seq_head_branch, i64 n_0.seq_head_commit]) rfl (by kernel_rfl)) (Pend.cons rfl (q_fe gone3 rfl rfl) (Pend.cons rfl (q_field gfa54_1 rfl) (Pend.cons rfl (q_field gfa57_7 rfl) (Pend.cons rfl (q_fe gone9 rfl rfl) (Pend.cons rfl (q_field gfa54_0 rfl) (Pend.cons rfl (q_field gfa57_7 rfl) (Pend.cons rfl (q_fe gone9 rfl rfl) (Pend.cons rfl (q_field gfa57_6 rfl) (Pend.cons rfl (q_fe gone3 rfl rfl) (Pend.cons rfl (q_field gfa57_5 rfl) (Pend.cons rfl (q_fe gone55 rfl rfl) (Pend.cons rfl (q_field gfa57_4 rfl) (Pend.cons rfl (q_fe gone55 rfl rfl) (Pend.cons rfl (q_field gfa57_3 rfl) (Pend.cons rfl (q_fe gone9 rfl rfl) (Pend.cons rfl (q_field gfa57_2 rfl) (Pend.cons rfl (q_fe gone3 rfl rfl) (Pend.cons rfl (q_field gfa57_1 rfl) (Pend.cons rfl (q_fe gone9 rfl rfl) (Pend.cons rfl (q_field gfa57_0 rfl) (Pend.cons rfl (q_fe gone59 rfl rfl) (Pend.cons rfl (q_field gfa61_5 rfl) (Pend.cons rfl (q_build (vs := [(0, str n_0.head_branch), (1, i64 n_0.head_commit)]) (cs := #[str n_0.head_branch, i64 n_0.head_commit]) rfl (by kernel_rfl)) (Pend.cons rfl (q_fe gone3 rfl rfl) (Pend.cons rfl (q_field gfa54_1 rfl) (Pend.cons rfl (q_field gfa61_3 rfl) (Pend.cons rfl (q_fe gone9 rfl rfl) (Pend.cons rfl (q_field gfa54_0 rfl) (Pend.cons rfl (q_field gfa61_3 rfl) (Pend.cons rfl (q_fe gone52 rfl rfl) (Pend.cons rfl (q_field gfa61_2 rfl) (Pend.nil))))))))))))))))))))))))))))))))))))) ?_
 refine VD.one rfl ?_
 obtain ⟨y14_6, ey14_6, hS⟩ := bd_s hS
 refine VL.callO (l25_refs_ct n_0.refs ey14_6) rfl (by decide) ?_
 rintro q14_6_0 rfl
 try dsimp only
 refine VL.back (D' := [(46, n_0.seq_work.val), (45, ptr b3_3 10), (43, n_0.seq_index.val), (42, ptr b3_3 9), (41, .agg #[str n_0.seq_head_branch, i64 n_0.seq_head_commit]), (40, i64 n_0.seq_head_commit), (39, ptr b3_3 8), (38, ptr b3_3 7), (37, str n_0.seq_head_branch), (36, ptr b3_3 7), (35, ptr b3_3 7), (34, str n_0.seq_branch), (33, ptr b3_3 6), (32, i64 n_0.seq_made), (31, ptr b3_3 5), (29, n_0.seq_todo.val), (28, ptr b3_3 4), (26, n_0.seq_doing.val), (25, ptr b3_3 3), (24, str n_0.seq_text), (23, ptr b3_3 2), (22, i64 n_0.seq_other), (21, ptr b3_3 1), (20, str n_0.seq_kind), (19, ptr b3_3 0), (17, n_0.stash.val), (16, ptr b1_1 16), (15, .agg #[str n_0.head_branch, i64 n_0.head_commit]), (14, i64 n_0.head_commit), (13, ptr b1_1 4), (12, ptr b1_1 3), (11, str n_0.head_branch), (10, ptr b1_1 3), (9, ptr b1_1 3)]) (by kernel_rfl) (Pend.cons rfl (q_fe gone50 rfl rfl) (Pend.cons rfl (q_field gfa57_9 rfl) (Pend.cons rfl (q_fe gone51 rfl rfl) (Pend.cons rfl (q_field gfa57_8 rfl) (Pend.cons rfl (q_build (vs := [(0, str n_0.seq_head_branch), (1, i64 n_0.seq_head_commit)]) (cs := #[str n_0.seq_head_branch, i64 n_0.seq_head_commit]) rfl (by kernel_rfl)) (Pend.cons rfl (q_fe gone3 rfl rfl) (Pend.cons rfl (q_field gfa54_1 rfl) (Pend.cons rfl (q_field gfa57_7 rfl) (Pend.cons rfl (q_fe gone9 rfl rfl) (Pend.cons rfl (q_field gfa54_0 rfl) (Pend.cons rfl (q_field gfa57_7 rfl) (Pend.cons rfl (q_fe gone9 rfl rfl) (Pend.cons rfl (q_field gfa57_6 rfl) (Pend.cons rfl (q_fe gone3 rfl rfl) (Pend.cons rfl (q_field gfa57_5 rfl) (Pend.cons rfl (q_fe gone55 rfl rfl) (Pend.cons rfl (q_field gfa57_4 rfl) (Pend.cons rfl (q_fe gone55 rfl rfl) (Pend.cons rfl (q_field gfa57_3 rfl) (Pend.cons rfl (q_fe gone9 rfl rfl) (Pend.cons rfl (q_field gfa57_2 rfl) (Pend.cons rfl (q_fe gone3 rfl rfl) (Pend.cons rfl (q_field gfa57_1 rfl) (Pend.cons rfl (q_fe gone9 rfl rfl) (Pend.cons rfl (q_field gfa57_0 rfl) (Pend.cons rfl (q_fe gone59 rfl rfl) (Pend.cons rfl (q_field gfa61_5 rfl) (Pend.cons rfl (q_build (vs := [(0, str n_0.head_branch), (1, i64 n_0.head_commit)]) (cs := #[str n_0.head_branch, i64 n_0.head_commit]) rfl (by kernel_rfl)) (Pend.cons rfl (q_fe gone3 rfl rfl) (Pend.cons rfl (q_field gfa54_1 rfl) (Pend.cons rfl (q_field gfa61_3 rfl) (Pend.cons rfl (q_fe gone9 rfl rfl) (Pend.cons rfl (q_field gfa54_0 rfl) (Pend.cons rfl (q_field gfa61_3 rfl) (Pend.nil))))))))))))))))))))))))))))))))))) ?_
 refine VD.one rfl ?_
 obtain ⟨y24_7, ey24_7, hS⟩ := bd_s hS
 refine VL.callF (l25_stash_ct n_0.stash ey24_7) rfl (by decide) ?_
 rintro q24_7_0 rfl
 try dsimp only
 refine VL.back (D' := [(46, n_0.seq_work.val), (45, ptr b3_3 10), (43, n_0.seq_index.val), (42, ptr b3_3 9), (41, .agg #[str n_0.seq_head_branch, i64 n_0.seq_head_commit]), (40, i64 n_0.seq_head_commit), (39, ptr b3_3 8), (38, ptr b3_3 7), (37, str n_0.seq_head_branch), (36, ptr b3_3 7), (35, ptr b3_3 7), (34, str n_0.seq_branch), (33, ptr b3_3 6), (32, i64 n_0.seq_made), (31, ptr b3_3 5), (29, n_0.seq_todo.val), (28, ptr b3_3 4), (26, n_0.seq_doing.val), (25, ptr b3_3 3), (24, str n_0.seq_text), (23, ptr b3_3 2), (22, i64 n_0.seq_other), (21, ptr b3_3 1), (20, str n_0.seq_kind), (19, ptr b3_3 0), (15, .agg #[str n_0.head_branch, i64 n_0.head_commit]), (14, i64 n_0.head_commit), (13, ptr b1_1 4), (12, ptr b1_1 3), (11, str n_0.head_branch), (10, ptr b1_1 3), (9, ptr b1_1 3)]) (by kernel_rfl) (Pend.cons rfl (q_fe gone50 rfl rfl) (Pend.cons rfl (q_field gfa57_9 rfl) (Pend.cons rfl (q_fe gone51 rfl rfl) (Pend.cons rfl (q_field gfa57_8 rfl) (Pend.cons rfl (q_build (vs := [(0, str n_0.seq_head_branch), (1, i64 n_0.seq_head_commit)]) (cs := #[str n_0.seq_head_branch, i64 n_0.seq_head_commit]) rfl (by kernel_rfl)) (Pend.cons rfl (q_fe gone3 rfl rfl) (Pend.cons rfl (q_field gfa54_1 rfl) (Pend.cons rfl (q_field gfa57_7 rfl) (Pend.cons rfl (q_fe gone9 rfl rfl) (Pend.cons rfl (q_field gfa54_0 rfl) (Pend.cons rfl (q_field gfa57_7 rfl) (Pend.cons rfl (q_fe gone9 rfl rfl) (Pend.cons rfl (q_field gfa57_6 rfl) (Pend.cons rfl (q_fe gone3 rfl rfl) (Pend.cons rfl (q_field gfa57_5 rfl) (Pend.cons rfl (q_fe gone55 rfl rfl) (Pend.cons rfl (q_field gfa57_4 rfl) (Pend.cons rfl (q_fe gone55 rfl rfl) (Pend.cons rfl (q_field gfa57_3 rfl) (Pend.cons rfl (q_fe gone9 rfl rfl) (Pend.cons rfl (q_field gfa57_2 rfl) (Pend.cons rfl (q_fe gone3 rfl rfl) (Pend.cons rfl (q_field gfa57_1 rfl) (Pend.cons rfl (q_fe gone9 rfl rfl) (Pend.cons rfl (q_field gfa57_0 rfl) (Pend.cons rfl (q_build (vs := [(0, str n_0.head_branch), (1, i64 n_0.head_commit)]) (cs := #[str n_0.head_branch, i64 n_0.head_commit]) rfl (by kernel_rfl)) (Pend.cons rfl (q_fe gone3 rfl rfl) (Pend.cons rfl (q_field gfa54_1 rfl) (Pend.cons rfl (q_field gfa61_3 rfl) (Pend.cons rfl (q_fe gone9 rfl rfl) (Pend.cons rfl (q_field gfa54_0 rfl) (Pend.cons rfl (q_field gfa61_3 rfl) (Pend.nil))))))))))))))))))))))))))))))))) ?_
 refine VD.one rfl ?_
 obtain ⟨y33_8, ey33_8, hS⟩ := bd_s hS
 refine VL.callO (l21_Of_ct n_0.seq_doing ey33_8) rfl (by decide) ?_
 rintro q33_8_0 rfl
 try dsimp only
 refine VL.back (D' := [(46, n_0.seq_work.val), (45, ptr b3_3 10), (43, n_0.seq_index.val), (42, ptr b3_3 9), (41, .agg #[str n_0.seq_head_branch, i64 n_0.seq_head_commit]), (40, i64 n_0.seq_head_commit), (39, ptr b3_3 8), (38, ptr b3_3 7), (37, str n_0.seq_head_branch), (36, ptr b3_3 7), (35, ptr b3_3 7), (34, str n_0.seq_branch), (33, ptr b3_3 6), (32, i64 n_0.seq_made), (31, ptr b3_3 5), (29, n_0.seq_todo.val), (28, ptr b3_3 4), (24, str n_0.seq_text), (23, ptr b3_3 2), (22, i64 n_0.seq_other), (21, ptr b3_3 1), (20, str n_0.seq_kind), (19, ptr b3_3 0), (15, .agg #[str n_0.head_branch, i64 n_0.head_commit]), (14, i64 n_0.head_commit), (13, ptr b1_1 4), (12, ptr b1_1 3), (11, str n_0.head_branch), (10, ptr b1_1 3), (9, ptr b1_1 3)]) (by kernel_rfl) (Pend.cons rfl (q_fe gone50 rfl rfl) (Pend.cons rfl (q_field gfa57_9 rfl) (Pend.cons rfl (q_fe gone51 rfl rfl) (Pend.cons rfl (q_field gfa57_8 rfl) (Pend.cons rfl (q_build (vs := [(0, str n_0.seq_head_branch), (1, i64 n_0.seq_head_commit)]) (cs := #[str n_0.seq_head_branch, i64 n_0.seq_head_commit]) rfl (by kernel_rfl)) (Pend.cons rfl (q_fe gone3 rfl rfl) (Pend.cons rfl (q_field gfa54_1 rfl) (Pend.cons rfl (q_field gfa57_7 rfl) (Pend.cons rfl (q_fe gone9 rfl rfl) (Pend.cons rfl (q_field gfa54_0 rfl) (Pend.cons rfl (q_field gfa57_7 rfl) (Pend.cons rfl (q_fe gone9 rfl rfl) (Pend.cons rfl (q_field gfa57_6 rfl) (Pend.cons rfl (q_fe gone3 rfl rfl) (Pend.cons rfl (q_field gfa57_5 rfl) (Pend.cons rfl (q_fe gone55 rfl rfl) (Pend.cons rfl (q_field gfa57_4 rfl) (Pend.cons rfl (q_fe gone9 rfl rfl) (Pend.cons rfl (q_field gfa57_2 rfl) (Pend.cons rfl (q_fe gone3 rfl rfl) (Pend.cons rfl (q_field gfa57_1 rfl) (Pend.cons rfl (q_fe gone9 rfl rfl) (Pend.cons rfl (q_field gfa57_0 rfl) (Pend.cons rfl (q_build (vs := [(0, str n_0.head_branch), (1, i64 n_0.head_commit)]) (cs := #[str n_0.head_branch, i64 n_0.head_commit]) rfl (by kernel_rfl)) (Pend.cons rfl (q_fe gone3 rfl rfl) (Pend.cons rfl (q_field gfa54_1 rfl) (Pend.cons rfl (q_field gfa61_3 rfl) (Pend.cons rfl (q_fe gone9 rfl rfl) (Pend.cons rfl (q_field gfa54_0 rfl) (Pend.cons rfl (q_field gfa61_3 rfl) (Pend.nil))))))))))))))))))))))))))))))) ?_
 refine VD.one rfl ?_
 obtain ⟨y36_9, ey36_9, hS⟩ := bd_s hS
 refine VL.callO (l21_Of_ct n_0.seq_todo ey36_9) rfl (by decide) ?_
 rintro q36_9_0 rfl
 try dsimp only
 refine VL.back (D' := [(46, n_0.seq_work.val), (45, ptr b3_3 10), (43, n_0.seq_index.val), (42, ptr b3_3 9), (41, .agg #[str n_0.seq_head_branch, i64 n_0.seq_head_commit]), (40, i64 n_0.seq_head_commit), (39, ptr b3_3 8), (38, ptr b3_3 7), (37, str n_0.seq_head_branch), (36, ptr b3_3 7), (35, ptr b3_3 7), (34, str n_0.seq_branch), (33, ptr b3_3 6), (32, i64 n_0.seq_made), (31, ptr b3_3 5), (24, str n_0.seq_text), (23, ptr b3_3 2), (22, i64 n_0.seq_other), (21, ptr b3_3 1), (20, str n_0.seq_kind), (19, ptr b3_3 0), (15, .agg #[str n_0.head_branch, i64 n_0.head_commit]), (14, i64 n_0.head_commit), (13, ptr b1_1 4), (12, ptr b1_1 3), (11, str n_0.head_branch), (10, ptr b1_1 3), (9, ptr b1_1 3)]) (by kernel_rfl) (Pend.cons rfl (q_fe gone50 rfl rfl) (Pend.cons rfl (q_field gfa57_9 rfl) (Pend.cons rfl (q_fe gone51 rfl rfl) (Pend.cons rfl (q_field gfa57_8 rfl) (Pend.cons rfl (q_build (vs := [(0, str n_0.seq_head_branch), (1, i64 n_0.seq_head_commit)]) (cs := #[str n_0.seq_head_branch, i64 n_0.seq_head_commit]) rfl (by kernel_rfl)) (Pend.cons rfl (q_fe gone3 rfl rfl) (Pend.cons rfl (q_field gfa54_1 rfl) (Pend.cons rfl (q_field gfa57_7 rfl) (Pend.cons rfl (q_fe gone9 rfl rfl) (Pend.cons rfl (q_field gfa54_0 rfl) (Pend.cons rfl (q_field gfa57_7 rfl) (Pend.cons rfl (q_fe gone9 rfl rfl) (Pend.cons rfl (q_field gfa57_6 rfl) (Pend.cons rfl (q_fe gone3 rfl rfl) (Pend.cons rfl (q_field gfa57_5 rfl) (Pend.cons rfl (q_fe gone9 rfl rfl) (Pend.cons rfl (q_field gfa57_2 rfl) (Pend.cons rfl (q_fe gone3 rfl rfl) (Pend.cons rfl (q_field gfa57_1 rfl) (Pend.cons rfl (q_fe gone9 rfl rfl) (Pend.cons rfl (q_field gfa57_0 rfl) (Pend.cons rfl (q_build (vs := [(0, str n_0.head_branch), (1, i64 n_0.head_commit)]) (cs := #[str n_0.head_branch, i64 n_0.head_commit]) rfl (by kernel_rfl)) (Pend.cons rfl (q_fe gone3 rfl rfl) (Pend.cons rfl (q_field gfa54_1 rfl) (Pend.cons rfl (q_field gfa61_3 rfl) (Pend.cons rfl (q_fe gone9 rfl rfl) (Pend.cons rfl (q_field gfa54_0 rfl) (Pend.cons rfl (q_field gfa61_3 rfl) (Pend.nil))))))))))))))))))))))))))))) ?_
 refine VD.one rfl ?_
 obtain ⟨y50_10, ey50_10, hS⟩ := bd_s hS
 refine VL.callO (l15_Of_ct n_0.seq_index ey50_10) rfl (by decide) ?_
 rintro q50_10_0 rfl
 try dsimp only
 refine VL.back (D' := [(46, n_0.seq_work.val), (45, ptr b3_3 10), (41, .agg #[str n_0.seq_head_branch, i64 n_0.seq_head_commit]), (40, i64 n_0.seq_head_commit), (39, ptr b3_3 8), (38, ptr b3_3 7), (37, str n_0.seq_head_branch), (36, ptr b3_3 7), (35, ptr b3_3 7), (34, str n_0.seq_branch), (33, ptr b3_3 6), (32, i64 n_0.seq_made), (31, ptr b3_3 5), (24, str n_0.seq_text), (23, ptr b3_3 2), (22, i64 n_0.seq_other), (21, ptr b3_3 1), (20, str n_0.seq_kind), (19, ptr b3_3 0), (15, .agg #[str n_0.head_branch, i64 n_0.head_commit]), (14, i64 n_0.head_commit), (13, ptr b1_1 4), (12, ptr b1_1 3), (11, str n_0.head_branch), (10, ptr b1_1 3), (9, ptr b1_1 3)]) (by kernel_rfl) (Pend.cons rfl (q_fe gone50 rfl rfl) (Pend.cons rfl (q_field gfa57_9 rfl) (Pend.cons rfl (q_build (vs := [(0, str n_0.seq_head_branch), (1, i64 n_0.seq_head_commit)]) (cs := #[str n_0.seq_head_branch, i64 n_0.seq_head_commit]) rfl (by kernel_rfl)) (Pend.cons rfl (q_fe gone3 rfl rfl) (Pend.cons rfl (q_field gfa54_1 rfl) (Pend.cons rfl (q_field gfa57_7 rfl) (Pend.cons rfl (q_fe gone9 rfl rfl) (Pend.cons rfl (q_field gfa54_0 rfl) (Pend.cons rfl (q_field gfa57_7 rfl) (Pend.cons rfl (q_fe gone9 rfl rfl) (Pend.cons rfl (q_field gfa57_6 rfl) (Pend.cons rfl (q_fe gone3 rfl rfl) (Pend.cons rfl (q_field gfa57_5 rfl) (Pend.cons rfl (q_fe gone9 rfl rfl) (Pend.cons rfl (q_field gfa57_2 rfl) (Pend.cons rfl (q_fe gone3 rfl rfl) (Pend.cons rfl (q_field gfa57_1 rfl) (Pend.cons rfl (q_fe gone9 rfl rfl) (Pend.cons rfl (q_field gfa57_0 rfl) (Pend.cons rfl (q_build (vs := [(0, str n_0.head_branch), (1, i64 n_0.head_commit)]) (cs := #[str n_0.head_branch, i64 n_0.head_commit]) rfl (by kernel_rfl)) (Pend.cons rfl (q_fe gone3 rfl rfl) (Pend.cons rfl (q_field gfa54_1 rfl) (Pend.cons rfl (q_field gfa61_3 rfl) (Pend.cons rfl (q_fe gone9 rfl rfl) (Pend.cons rfl (q_field gfa54_0 rfl) (Pend.cons rfl (q_field gfa61_3 rfl) (Pend.nil))))))))))))))))))))))))))) ?_
 refine VD.one rfl ?_
 obtain ⟨y53_11, ey53_11, hS⟩ := bd_s hS
 refine VL.callO (l14_Of_ct n_0.seq_work ey53_11) rfl (by decide) ?_
 rintro q53_11_0 rfl
 try dsimp only
 refine VL.back (D' := [(41, .agg #[str n_0.seq_head_branch, i64 n_0.seq_head_commit]), (40, i64 n_0.seq_head_commit), (39, ptr b3_3 8), (38, ptr b3_3 7), (37, str n_0.seq_head_branch), (36, ptr b3_3 7), (35, ptr b3_3 7), (34, str n_0.seq_branch), (33, ptr b3_3 6), (32, i64 n_0.seq_made), (31, ptr b3_3 5), (24, str n_0.seq_text), (23, ptr b3_3 2), (22, i64 n_0.seq_other), (21, ptr b3_3 1), (20, str n_0.seq_kind), (19, ptr b3_3 0), (15, .agg #[str n_0.head_branch, i64 n_0.head_commit]), (14, i64 n_0.head_commit), (13, ptr b1_1 4), (12, ptr b1_1 3), (11, str n_0.head_branch), (10, ptr b1_1 3), (9, ptr b1_1 3)]) (by kernel_rfl) (Pend.cons rfl (q_build (vs := [(0, str n_0.seq_head_branch), (1, i64 n_0.seq_head_commit)]) (cs := #[str n_0.seq_head_branch, i64 n_0.seq_head_commit]) rfl (by kernel_rfl)) (Pend.cons rfl (q_fe gone3 rfl rfl) (Pend.cons rfl (q_field gfa54_1 rfl) (Pend.cons rfl (q_field gfa57_7 rfl) (Pend.cons rfl (q_fe gone9 rfl rfl) (Pend.cons rfl (q_field gfa54_0 rfl) (Pend.cons rfl (q_field gfa57_7 rfl) (Pend.cons rfl (q_fe gone9 rfl rfl) (Pend.cons rfl (q_field gfa57_6 rfl) (Pend.cons rfl (q_fe gone3 rfl rfl) (Pend.cons rfl (q_field gfa57_5 rfl) (Pend.cons rfl (q_fe gone9 rfl rfl) (Pend.cons rfl (q_field gfa57_2 rfl) (Pend.cons rfl (q_fe gone3 rfl rfl) (Pend.cons rfl (q_field gfa57_1 rfl) (Pend.cons rfl (q_fe gone9 rfl rfl) (Pend.cons rfl (q_field gfa57_0 rfl) (Pend.cons rfl (q_build (vs := [(0, str n_0.head_branch), (1, i64 n_0.head_commit)]) (cs := #[str n_0.head_branch, i64 n_0.head_commit]) rfl (by kernel_rfl)) (Pend.cons rfl (q_fe gone3 rfl rfl) (Pend.cons rfl (q_field gfa54_1 rfl) (Pend.cons rfl (q_field gfa61_3 rfl) (Pend.cons rfl (q_fe gone9 rfl rfl) (Pend.cons rfl (q_field gfa54_0 rfl) (Pend.cons rfl (q_field gfa61_3 rfl) (Pend.nil))))))))))))))))))))))))) ?_
 refine Zw rfl (q_build (vs := [(0, str n_0.seq_kind), (1, i64 n_0.seq_other), (2, str n_0.seq_text), (3, q33_8_0.val), (4, q36_9_0.val), (5, i64 n_0.seq_made), (6, str n_0.seq_branch), (7, .agg #[str n_0.seq_head_branch, i64 n_0.seq_head_commit]), (8, q50_10_0.val), (9, q53_11_0.val)]) (cs := #[str n_0.seq_kind, i64 n_0.seq_other, str n_0.seq_text, q33_8_0.val, q36_9_0.val, i64 n_0.seq_made, str n_0.seq_branch, str n_0.seq_head_branch, i64 n_0.seq_head_commit, q50_10_0.val, q53_11_0.val]) rfl (by kernel_rfl)) ?_
 refine Zw rfl (q_build (vs := [(0, q8_4_0.val), (1, q11_5_0.val), (2, q14_6_0.val), (3, .agg #[str n_0.head_branch, i64 n_0.head_commit]), (5, q24_7_0.val), (4, .agg #[str n_0.seq_kind, i64 n_0.seq_other, str n_0.seq_text, q33_8_0.val, q36_9_0.val, i64 n_0.seq_made, str n_0.seq_branch, str n_0.seq_head_branch, i64 n_0.seq_head_commit, q50_10_0.val, q53_11_0.val])]) (cs := #[q8_4_0.val, q11_5_0.val, q14_6_0.val, str n_0.head_branch, i64 n_0.head_commit, str n_0.seq_kind, i64 n_0.seq_other, str n_0.seq_text, q33_8_0.val, q36_9_0.val, i64 n_0.seq_made, str n_0.seq_branch, str n_0.seq_head_branch, i64 n_0.seq_head_commit, q50_10_0.val, q53_11_0.val, q24_7_0.val]) rfl (by kernel_rfl)) ?_
 refine VD.one rfl ?_
 refine Zv (vc := [q8_4_0.val, q11_5_0.val, q14_6_0.val, str n_0.head_branch, i64 n_0.head_commit, str n_0.seq_kind, i64 n_0.seq_other, str n_0.seq_text, q33_8_0.val, q36_9_0.val, i64 n_0.seq_made, str n_0.seq_branch, str n_0.seq_head_branch, i64 n_0.seq_head_commit, q50_10_0.val, q53_11_0.val, q24_7_0.val]) (cs' := [q8_4_0.val, q11_5_0.val, q14_6_0.val, str n_0.head_branch, i64 n_0.head_commit, str n_0.seq_kind, i64 n_0.seq_other, str n_0.seq_text, q33_8_0.val, q36_9_0.val, i64 n_0.seq_made, str n_0.seq_branch, str n_0.seq_head_branch, i64 n_0.seq_head_commit, q50_10_0.val, q53_11_0.val, q24_7_0.val]) rfl gsz82 ?_
 refine VL.back (D' := []) (by kernel_rfl) (Pend.nil) ?_
 refine VD.to (fun _ _ h => h) ?_
 refine VC.keep (ρ' := [(2, ptr b2_2 0)]) [2] rfl ?_
 refine VC.shut q8_4_0 184 (fun _ _ _ _ => trivial) ?_
 refine VC.shut q11_5_0 219 (fun _ _ _ _ => trivial) ?_
 refine VC.shut q14_6_0 205 (fun _ _ _ _ => trivial) ?_
 refine VC.shut q33_8_0 316 (fun _ _ _ _ => trivial) ?_
 refine VC.shut q36_9_0 316 (fun _ _ _ _ => trivial) ?_
 refine VC.shut q50_10_0 219 (fun _ _ _ _ => trivial) ?_
 refine VC.shut q53_11_0 184 (fun _ _ _ _ => trivial) ?_
 cases hS
 exact VC.ret (finG (vs := [.agg #[q8_4_0.val, q11_5_0.val, q14_6_0.val, str n_0.head_branch, i64 n_0.head_commit, str n_0.seq_kind, i64 n_0.seq_other, str n_0.seq_text, q33_8_0.val, q36_9_0.val, i64 n_0.seq_made, str n_0.seq_branch, str n_0.seq_head_branch, i64 n_0.seq_head_commit, q50_10_0.val, q53_11_0.val, q24_7_0.val]]) (.inr rfl) rfl (RVs.cell gagg82 rfl rfl Rd.blk (RVs.nil)) ⟨q8_4_0, q11_5_0, q14_6_0, n_0.head_branch, n_0.head_commit, n_0.seq_kind, n_0.seq_other, n_0.seq_text, q33_8_0, q36_9_0, n_0.seq_made, n_0.seq_branch, n_0.seq_head_branch, n_0.seq_head_commit, q50_10_0, q53_11_0, q24_7_0⟩ rfl rfl (by (try dsimp only); exact InM.out) (fun _ _ => trivial))
theorem r14_Same_ct (a_0 : Sv Rectoref14File) (b_1 : Sv Rectoref14File) {r : Bool} (hS : Sh.r14_Same a_0.l b_1.l = some r) :
 Ct Tryz.prog 36 [a_0.val, b_1.val] (a_0.ok.and b_1.ok) (Ow.emp) (X := Unit) (fun _ => .bool r) (fun _ => True) (fun _ => Mo.tt) (fun _ => Ow.emp) := by
 refine Zo Tryz.func36 Tryz.ntmps36 fun c => ?_
 unfold Sh.r14_Same at hS
 refine Zq (Zr ?_)
 refine Zy ?_
 refine Zq (Zq (Zr ?_))
 refine Zm ?_
 refine Zu (q_ln (s := a_0) Tryz.underlying73 rfl) ?_
 refine Zm ?_
 refine Zu (q_ln (s := b_1) Tryz.underlying73 rfl) ?_
 refine Zu (q_neq rfl rfl) ?_
 refine Zl ?_
 refine Zcn hS (fun h10 hS => ?_) (fun h10 hS => ?_)
 ·
  refine Zq (Zr ?_)
  refine Zy ?_
  cases hS
  exact Ze
 refine Zk ?_
 refine Zq (Zq (Zr ?_))
 refine Zy ?_
 refine Zb ?_
 refine VC.iter (S := Int) (fun (i5_1 : Int) => i5_1) (fun (i5_1 : Int) => [(0, a_0.val), (1, b_1.val), (5, i64 i5_1)]) (fun (i5_1 : Int) => Mo.tt) (fun (i5_1 : Int) => Ow.emp) 0 [0, 1, 5] hS rfl ?_
 clear hS
 rintro i5_1 m1 y1 hS hK1
 refine Zq (Zq (Zr ?_))
 refine Zy ?_
 refine Zu (q_ln (s := a_0) Tryz.underlying73 rfl) ?_
 refine Zu (q_lss rfl rfl) ?_
 refine Zl ?_
 refine Zc hS (fun h14 hS => ?_) (fun h14 hS => ?_)
 ·
  refine Zk ?_
  refine Zq (Zb (Zq ?_))
  refine VC.draw ((List.range 9).map fun k => (k, true)) mixed (by kernel_rfl) (by kernel_rfl) (by kernel_rfl) ?_
  refine Zw rfl (q_move rfl) ?_
  refine Zw rfl (q_move rfl) ?_
  obtain ⟨z19_2, nz19_2, hz19_2, hS⟩ := at_s hS
  refine Zw rfl (q_ixm (s := a_0) Tryz.underlying73 gsz184 rfl rfl nz19_2 (lt_of_get nz19_2 hz19_2)) ?_
  refine Zw rfl (q_els (s := a_0) gagg184 rfl rfl hz19_2) ?_
  refine Zw rfl (q_move rfl) ?_
  refine Zw rfl (q_move rfl) ?_
  obtain ⟨z23_3, nz23_3, hz23_3, hS⟩ := at_s hS
  refine Zw rfl (q_ixm (s := b_1) Tryz.underlying73 gsz184 rfl rfl nz23_3 (lt_of_get nz23_3 hz23_3)) ?_
  refine Zw rfl (q_els (s := b_1) gagg184 rfl rfl hz23_3) ?_
  refine Zw rfl (q_stneq geqg184 (geqs184 z19_2.path z19_2.mode z19_2.data z23_3.path z23_3.mode z23_3.data) rfl rfl) ?_
  refine VD.to (fun _ _ h => h) ?_
  refine VC.keep (ρ' := [(0, a_0.val), (1, b_1.val), (5, i64 i5_1), (25, .bool (!decide (z19_2.path = z23_3.path ∧ z19_2.mode = z23_3.mode ∧ z19_2.data = z23_3.data)))]) [0, 1, 5, 25] rfl ?_
  refine Zcn hS (fun h25 hS => ?_) (fun h25 hS => ?_)
  ·
   refine Zq (Zr ?_)
   refine Zy ?_
   replace hS := up2 hS hK1
   cases hS
   exact Ze
  refine Zk ?_
  refine Zr ?_
  refine Zm ?_
  obtain ⟨b16, hS⟩ := gd_s hS
  refine Zu (q_add rfl rfl b16) ?_
  refine Za ?_
  refine VL.rnd (i5_1 + 1) [0, 1, 5] (fun _ _ h => h) (go2 hS hK1) rfl
 replace hS := up2 hS hK1
 refine Zx ?_
 refine Zq (Zr ?_)
 refine Zy ?_
 cases hS
 exact Ze
theorem r14_SameIndex_ct (a_0 : Sv Rectoref14Entry) (b_1 : Sv Rectoref14Entry) {r : Bool} (hS : Sh.r14_SameIndex a_0.l b_1.l = some r) :
 Ct Tryz.prog 153 [a_0.val, b_1.val] (a_0.ok.and b_1.ok) (Ow.emp) (X := Unit) (fun _ => .bool r) (fun _ => True) (fun _ => Mo.tt) (fun _ => Ow.emp) := by
 refine Zo Tryz.func153 Tryz.ntmps153 fun c => ?_
 unfold Sh.r14_SameIndex at hS
 refine Zq (Zr ?_)
 refine Zy ?_
 refine Zq (Zq (Zr ?_))
 refine Zm ?_
 refine Zu (q_ln (s := a_0) Tryz.underlying74 rfl) ?_
 refine Zm ?_
 refine Zu (q_ln (s := b_1) Tryz.underlying74 rfl) ?_
 refine Zu (q_neq rfl rfl) ?_
 refine Zl ?_
 refine Zcn hS (fun h10 hS => ?_) (fun h10 hS => ?_)
 ·
  refine Zq (Zr ?_)
  refine Zy ?_
  cases hS
  exact Ze
 refine Zk ?_
 refine Zq (Zq (Zr ?_))
 refine Zy ?_
 refine Zb ?_
 refine VC.iter (S := Int) (fun (i5_1 : Int) => i5_1) (fun (i5_1 : Int) => [(0, a_0.val), (1, b_1.val), (5, i64 i5_1)]) (fun (i5_1 : Int) => Mo.tt) (fun (i5_1 : Int) => Ow.emp) 0 [0, 1, 5] hS rfl ?_
 clear hS
 rintro i5_1 m1 y1 hS hK1
 refine Zq (Zq (Zr ?_))
 refine Zy ?_
 refine Zu (q_ln (s := a_0) Tryz.underlying74 rfl) ?_
 refine Zu (q_lss rfl rfl) ?_
 refine Zl ?_
 refine Zc hS (fun h14 hS => ?_) (fun h14 hS => ?_)
 ·
  refine Zk ?_
  refine Zq (Zb ?_)
  refine VC.cutJ (S := Bool) (fun (x66_2 : Bool) => x66_2) (fun (x66_2 : Bool) => [(0, a_0.val), (1, b_1.val), (5, i64 i5_1), (66, .bool x66_2)]) (fun (x66_2 : Bool) => Mo.tt) (fun (x66_2 : Bool) => Ow.emp) hS ?_ ?_
  ·
   clear hS
   intro k3 hS
   refine VC.draw ((List.range 50).map fun k => (k, true)) mixed (by kernel_rfl) (by kernel_rfl) (by kernel_rfl) ?_
   refine Zw rfl (q_move rfl) ?_
   refine Zw rfl (q_move rfl) ?_
   obtain ⟨z19_4, nz19_4, hz19_4, hS⟩ := at_s hS
   refine Zw rfl (q_ixm (s := a_0) Tryz.underlying74 gsz219 rfl rfl nz19_4 (lt_of_get nz19_4 hz19_4)) ?_
   refine Zw rfl (q_field gfa219_0 rfl) ?_
   refine Zw rfl (q_elf (s := a_0) gone9 rfl hz19_4 rfl) ?_
   refine Zw rfl (q_move rfl) ?_
   refine Zw rfl (q_move rfl) ?_
   obtain ⟨z24_5, nz24_5, hz24_5, hS⟩ := at_s hS
   refine Zw rfl (q_ixm (s := b_1) Tryz.underlying74 gsz219 rfl rfl nz24_5 (lt_of_get nz24_5 hz24_5)) ?_
   refine Zw rfl (q_field gfa219_0 rfl) ?_
   refine Zw rfl (q_elf (s := b_1) gone9 rfl hz24_5 rfl) ?_
   refine Zw rfl (q_sne rfl rfl) ?_
   refine Zw rfl (q_move rfl) ?_
   refine VD.split_ndec 28 rfl (fun h28 => ?_) (fun h28 => ?_)
   ·
    replace hS := it_f h28 hS
    refine Zd ?_
    refine Zd ?_
    refine Zd ?_
    refine Zd ?_
    refine Zd ?_
    refine Zd ?_
    refine Zd ?_
    refine Zd ?_
    refine Zd ?_
    refine Zd ?_
    refine Zd ?_
    refine Zw rfl (q_pick_t rfl rfl) ?_
    refine Zw rfl (q_move rfl) ?_
    refine Zd ?_
    refine Zd ?_
    refine Zd ?_
    refine Zd ?_
    refine Zd ?_
    refine Zd ?_
    refine Zd ?_
    refine Zd ?_
    refine Zd ?_
    refine Zd ?_
    refine Zd ?_
    refine Zw rfl (q_pick_t rfl rfl) ?_
    refine Zw rfl (q_move rfl) ?_
    refine Zd ?_
    refine Zd ?_
    refine Zd ?_
    refine Zd ?_
    refine Zd ?_
    refine Zd ?_
    refine Zd ?_
    refine Zd ?_
    refine Zd ?_
    refine Zd ?_
    refine Zd ?_
    refine Zw rfl (q_pick_t rfl rfl) ?_
    refine VD.mt true [0, 1, 5, 66] (fun _ _ h => h) hS rfl
   replace hS := it_t h28 hS
   refine Zi rfl (q_move rfl) ?_
   refine Zi rfl (q_move rfl) ?_
   obtain ⟨z31_6, nz31_6, hz31_6, hS⟩ := at_s hS
   refine Zi rfl (q_ixm (s := a_0) Tryz.underlying74 gsz219 rfl rfl nz31_6 (lt_of_get nz31_6 hz31_6)) ?_
   refine Zi rfl (q_field gfa219_1 rfl) ?_
   refine Zi rfl (q_elf (s := a_0) gone3 rfl hz31_6 rfl) ?_
   refine Zi rfl (q_move rfl) ?_
   refine Zi rfl (q_move rfl) ?_
   obtain ⟨z36_7, nz36_7, hz36_7, hS⟩ := at_s hS
   refine Zi rfl (q_ixm (s := b_1) Tryz.underlying74 gsz219 rfl rfl nz36_7 (lt_of_get nz36_7 hz36_7)) ?_
   refine Zi rfl (q_field gfa219_1 rfl) ?_
   refine Zi rfl (q_elf (s := b_1) gone3 rfl hz36_7 rfl) ?_
   refine Zi rfl (q_neq rfl rfl) ?_
   refine Zw rfl (q_pick_f rfl rfl) ?_
   refine Zw rfl (q_move rfl) ?_
   refine VD.split_ndec 41 rfl (fun h41 => ?_) (fun h41 => ?_)
   ·
    replace hS := it_f h41 hS
    refine Zd ?_
    refine Zd ?_
    refine Zd ?_
    refine Zd ?_
    refine Zd ?_
    refine Zd ?_
    refine Zd ?_
    refine Zd ?_
    refine Zd ?_
    refine Zd ?_
    refine Zd ?_
    refine Zw rfl (q_pick_t rfl rfl) ?_
    refine Zw rfl (q_move rfl) ?_
    refine Zd ?_
    refine Zd ?_
    refine Zd ?_
    refine Zd ?_
    refine Zd ?_
    refine Zd ?_
    refine Zd ?_
    refine Zd ?_
    refine Zd ?_
    refine Zd ?_
    refine Zd ?_
    refine Zw rfl (q_pick_t rfl rfl) ?_
    refine VD.mt true [0, 1, 5, 66] (fun _ _ h => h) hS rfl
   replace hS := it_t h41 hS
   refine Zi rfl (q_move rfl) ?_
   refine Zi rfl (q_move rfl) ?_
   obtain ⟨z44_8, nz44_8, hz44_8, hS⟩ := at_s hS
   refine Zi rfl (q_ixm (s := a_0) Tryz.underlying74 gsz219 rfl rfl nz44_8 (lt_of_get nz44_8 hz44_8)) ?_
   refine Zi rfl (q_field gfa219_2 rfl) ?_
   refine Zi rfl (q_elf (s := a_0) gone3 rfl hz44_8 rfl) ?_
   refine Zi rfl (q_move rfl) ?_
   refine Zi rfl (q_move rfl) ?_
   obtain ⟨z49_9, nz49_9, hz49_9, hS⟩ := at_s hS
   refine Zi rfl (q_ixm (s := b_1) Tryz.underlying74 gsz219 rfl rfl nz49_9 (lt_of_get nz49_9 hz49_9)) ?_
   refine Zi rfl (q_field gfa219_2 rfl) ?_
   refine Zi rfl (q_elf (s := b_1) gone3 rfl hz49_9 rfl) ?_
   refine Zi rfl (q_neq rfl rfl) ?_
   refine Zw rfl (q_pick_f rfl rfl) ?_
   refine Zw rfl (q_move rfl) ?_
   refine VD.split_ndec 54 rfl (fun h54 => ?_) (fun h54 => ?_)
   ·
    replace hS := it_f h54 hS
    refine Zd ?_
    refine Zd ?_
    refine Zd ?_
    refine Zd ?_
    refine Zd ?_
    refine Zd ?_
    refine Zd ?_
    refine Zd ?_
    refine Zd ?_
    refine Zd ?_
    refine Zd ?_
    refine Zw rfl (q_pick_t rfl rfl) ?_
    refine VD.mt true [0, 1, 5, 66] (fun _ _ h => h) hS rfl
   replace hS := it_t h54 hS
   refine Zi rfl (q_move rfl) ?_
   refine Zi rfl (q_move rfl) ?_
   obtain ⟨z57_10, nz57_10, hz57_10, hS⟩ := at_s hS
   refine Zi rfl (q_ixm (s := a_0) Tryz.underlying74 gsz219 rfl rfl nz57_10 (lt_of_get nz57_10 hz57_10)) ?_
   refine Zi rfl (q_field gfa219_3 rfl) ?_
   refine Zi rfl (q_elf (s := a_0) gone9 rfl hz57_10 rfl) ?_
   refine Zi rfl (q_move rfl) ?_
   refine Zi rfl (q_move rfl) ?_
   obtain ⟨z62_11, nz62_11, hz62_11, hS⟩ := at_s hS
   refine Zi rfl (q_ixm (s := b_1) Tryz.underlying74 gsz219 rfl rfl nz62_11 (lt_of_get nz62_11 hz62_11)) ?_
   refine Zi rfl (q_field gfa219_3 rfl) ?_
   refine Zi rfl (q_elf (s := b_1) gone9 rfl hz62_11 rfl) ?_
   refine Zi rfl (q_sne rfl rfl) ?_
   refine Zw rfl (q_pick_f rfl rfl) ?_
   refine VD.mt (!decide (z57_10.data = z62_11.data)) [0, 1, 5, 66] (fun _ _ h => h) hS rfl
  clear hS
  rintro x66_2 hS
  refine Zcb hS (fun h66 hS => ?_) (fun h66 hS => ?_)
  ·
   refine Zq (Zr ?_)
   refine Zy ?_
   replace hS := up2 hS hK1
   cases hS
   exact Ze
  refine Zk ?_
  refine Zr ?_
  refine Zm ?_
  obtain ⟨b16, hS⟩ := gd_s hS
  refine Zu (q_add rfl rfl b16) ?_
  refine Za ?_
  refine VL.rnd (i5_1 + 1) [0, 1, 5] (fun _ _ h => h) (go2 hS hK1) rfl
 replace hS := up2 hS hK1
 refine Zx ?_
 refine Zq (Zr ?_)
 refine Zy ?_
 cases hS
 exact Ze
theorem r25_SameStash_ct (a_0 : Sv Rectoref25Shelf) (b_1 : Sv Rectoref25Shelf) {r : Bool} (hS : Sh.r25_SameStash (a_0.l.map Rectoref25Shelf.pl) (b_1.l.map Rectoref25Shelf.pl) = some r) :
 Ct Tryz.prog 154 [a_0.val, b_1.val] (a_0.ok.and b_1.ok) (Ow.emp) (X := Unit) (fun _ => .bool r) (fun _ => True) (fun _ => Mo.tt) (fun _ => Ow.emp) := by
 refine Zo Tryz.func154 Tryz.ntmps154 fun c => ?_
 unfold Sh.r25_SameStash at hS
 refine Zq (Zr ?_)
 refine Zy ?_
 refine Zq (Zq (Zr ?_))
 refine Zm ?_
 refine Zu (q_lnm Rectoref25Shelf.pl (s := a_0) Tryz.underlying80 rfl) ?_
 refine Zm ?_
 refine Zu (q_lnm Rectoref25Shelf.pl (s := b_1) Tryz.underlying80 rfl) ?_
 refine Zu (q_neq rfl rfl) ?_
 refine Zl ?_
 refine Zcn hS (fun h10 hS => ?_) (fun h10 hS => ?_)
 ·
  refine Zq (Zr ?_)
  refine Zy ?_
  cases hS
  exact Ze
 refine Zk ?_
 refine Zq (Zq (Zr ?_))
 refine Zy ?_
 refine Zb ?_
 refine VC.iter (S := Int) (fun (i5_1 : Int) => i5_1) (fun (i5_1 : Int) => [(0, a_0.val), (1, b_1.val), (5, i64 i5_1)]) (fun (i5_1 : Int) => Mo.tt) (fun (i5_1 : Int) => Ow.emp) 0 [0, 1, 5] hS rfl ?_
 clear hS
 rintro i5_1 m1 y1 hS hK1
 refine Zq (Zq (Zr ?_))
 refine Zy ?_
 refine Zu (q_lnm Rectoref25Shelf.pl (s := a_0) Tryz.underlying80 rfl) ?_
 refine Zu (q_lss rfl rfl) ?_
 refine Zl ?_
 refine Zc hS (fun h14 hS => ?_) (fun h14 hS => ?_)
 ·
  refine Zk ?_
  refine Zq (Zb ?_)
  refine VC.cutJ (S := Bool) (fun (x68_2 : Bool) => x68_2) (fun (x68_2 : Bool) => [(0, a_0.val), (1, b_1.val), (5, i64 i5_1), (68, .bool x68_2)]) (fun (x68_2 : Bool) => Mo.tt) (fun (x68_2 : Bool) => Ow.emp) hS ?_ ?_
  ·
   clear hS
   intro k3 hS
   refine VC.draw ((List.range 52).map fun k => (k, true)) mixed (by kernel_rfl) (by kernel_rfl) (by kernel_rfl) ?_
   refine Zw rfl (q_move rfl) ?_
   refine Zw rfl (q_move rfl) ?_
   obtain ⟨z19_4, nz19_4, hz19_4, hS⟩ := atm_s hS
   refine VD.deep z19_4.m hz19_4 (fun _ q => q) ?_
   refine Zw rfl (q_ixm (s := a_0) Tryz.underlying80 gsz209 rfl rfl nz19_4 (lt_of_get nz19_4 hz19_4)) ?_
   refine Zw rfl (q_field gfa209_0 rfl) ?_
   refine Zw rfl (q_elf (s := a_0) gone3 rfl hz19_4 rfl) ?_
   refine Zw rfl (q_move rfl) ?_
   refine Zw rfl (q_move rfl) ?_
   obtain ⟨z24_5, nz24_5, hz24_5, hS⟩ := atm_s hS
   refine VD.deep z24_5.m hz24_5 (fun _ q => q) ?_
   refine Zw rfl (q_ixm (s := b_1) Tryz.underlying80 gsz209 rfl rfl nz24_5 (lt_of_get nz24_5 hz24_5)) ?_
   refine Zw rfl (q_field gfa209_0 rfl) ?_
   refine Zw rfl (q_elf (s := b_1) gone3 rfl hz24_5 rfl) ?_
   refine Zw rfl (q_neq rfl rfl) ?_
   refine Zw rfl (q_move rfl) ?_
   refine VD.split_ndec 28 rfl (fun h28 => ?_) (fun h28 => ?_)
   ·
    replace hS := it_f h28 hS
    refine Zd ?_
    refine Zd ?_
    refine Zd ?_
    refine Zd ?_
    refine Zd ?_
    refine Zd ?_
    refine Zd ?_
    refine Zd ?_
    refine Zd ?_
    refine Zd ?_
    refine Zd ?_
    refine Zw rfl (q_pick_t rfl rfl) ?_
    refine Zw rfl (q_move rfl) ?_
    refine Zd ?_
    refine Zd ?_
    refine Zd ?_
    refine Zd ?_
    refine Zd ?_
    refine Zd ?_
    refine Zd ?_
    refine Zd ?_
    refine Zd ?_
    refine Zd ?_
    refine Zd ?_
    refine Zd ?_
    refine Zw rfl (q_pick_t rfl rfl) ?_
    refine Zw rfl (q_move rfl) ?_
    refine Zd ?_
    refine Zd ?_
    refine Zd ?_
    refine Zd ?_
    refine Zd ?_
    refine Zd ?_
    refine Zd ?_
    refine Zd ?_
    refine Zd ?_
    refine Zd ?_
    refine Zd ?_
    refine Zd ?_
    refine Zw rfl (q_pick_t rfl rfl) ?_
    refine VD.mt true [0, 1, 5, 68] (fun _ _ h => h) hS rfl
   replace hS := it_t h28 hS
   refine Zi rfl (q_move rfl) ?_
   refine Zi rfl (q_move rfl) ?_
   obtain ⟨z31_6, nz31_6, hz31_6, hS⟩ := atm_s hS
   refine VD.deep z31_6.m hz31_6 (fun _ q => q) ?_
   refine Zi rfl (q_ixm (s := a_0) Tryz.underlying80 gsz209 rfl rfl nz31_6 (lt_of_get nz31_6 hz31_6)) ?_
   refine Zi rfl (q_field gfa209_3 rfl) ?_
   refine Zi rfl (q_elf (s := a_0) gone9 rfl hz31_6 rfl) ?_
   refine Zi rfl (q_move rfl) ?_
   refine Zi rfl (q_move rfl) ?_
   obtain ⟨z36_7, nz36_7, hz36_7, hS⟩ := atm_s hS
   refine VD.deep z36_7.m hz36_7 (fun _ q => q) ?_
   refine Zi rfl (q_ixm (s := b_1) Tryz.underlying80 gsz209 rfl rfl nz36_7 (lt_of_get nz36_7 hz36_7)) ?_
   refine Zi rfl (q_field gfa209_3 rfl) ?_
   refine Zi rfl (q_elf (s := b_1) gone9 rfl hz36_7 rfl) ?_
   refine Zi rfl (q_sne rfl rfl) ?_
   refine Zw rfl (q_pick_f rfl rfl) ?_
   refine Zw rfl (q_move rfl) ?_
   refine VD.split_ndec 41 rfl (fun h41 => ?_) (fun h41 => ?_)
   ·
    replace hS := it_f h41 hS
    refine Zd ?_
    refine Zd ?_
    refine Zd ?_
    refine Zd ?_
    refine Zd ?_
    refine Zd ?_
    refine Zd ?_
    refine Zd ?_
    refine Zd ?_
    refine Zd ?_
    refine Zd ?_
    refine Zd ?_
    refine Zw rfl (q_pick_t rfl rfl) ?_
    refine Zw rfl (q_move rfl) ?_
    refine Zd ?_
    refine Zd ?_
    refine Zd ?_
    refine Zd ?_
    refine Zd ?_
    refine Zd ?_
    refine Zd ?_
    refine Zd ?_
    refine Zd ?_
    refine Zd ?_
    refine Zd ?_
    refine Zd ?_
    refine Zw rfl (q_pick_t rfl rfl) ?_
    refine VD.mt true [0, 1, 5, 68] (fun _ _ h => h) hS rfl
   replace hS := it_t h41 hS
   refine Zi rfl (q_move rfl) ?_
   refine Zi rfl (q_move rfl) ?_
   obtain ⟨z44_8, nz44_8, hz44_8, hS⟩ := atm_s hS
   refine VD.deep z44_8.m hz44_8 (fun _ q => q) ?_
   refine Zi rfl (q_ixm (s := a_0) Tryz.underlying80 gsz209 rfl rfl nz44_8 (lt_of_get nz44_8 hz44_8)) ?_
   refine Zi rfl (q_field gfa209_1 rfl) ?_
   refine Zi rfl (q_elf (s := a_0) gone73 rfl hz44_8 rfl) ?_
   refine Zi rfl (q_move rfl) ?_
   refine Zi rfl (q_move rfl) ?_
   obtain ⟨z49_9, nz49_9, hz49_9, hS⟩ := atm_s hS
   refine VD.deep z49_9.m hz49_9 (fun _ q => q) ?_
   refine Zi rfl (q_ixm (s := b_1) Tryz.underlying80 gsz209 rfl rfl nz49_9 (lt_of_get nz49_9 hz49_9)) ?_
   refine Zi rfl (q_field gfa209_1 rfl) ?_
   refine Zi rfl (q_elf (s := b_1) gone73 rfl hz49_9 rfl) ?_
   obtain ⟨y52_10, ey52_10, hS⟩ := bd_s hS
   refine Zi rfl (q_call (r14_Same_ct z44_8.index z49_9.index ey52_10) rfl (fun _ _ => rfl)) ?_
   refine Zi rfl (q_not rfl) ?_
   refine Zw rfl (q_pick_f rfl rfl) ?_
   refine Zw rfl (q_move rfl) ?_
   refine VD.split 55 rfl (fun h55 => ?_) (fun h55 => ?_)
   ·
    replace hS := it_t h55 hS
    refine Zd ?_
    refine Zd ?_
    refine Zd ?_
    refine Zd ?_
    refine Zd ?_
    refine Zd ?_
    refine Zd ?_
    refine Zd ?_
    refine Zd ?_
    refine Zd ?_
    refine Zd ?_
    refine Zd ?_
    refine Zw rfl (q_pick_t rfl rfl) ?_
    refine VD.mt true [0, 1, 5, 68] (fun _ _ h => h) hS rfl
   replace hS := it_b h55 hS
   refine Zi rfl (q_move rfl) ?_
   refine Zi rfl (q_move rfl) ?_
   obtain ⟨z58_11, nz58_11, hz58_11, hS⟩ := atm_s hS
   refine VD.deep z58_11.m hz58_11 (fun _ q => q) ?_
   refine Zi rfl (q_ixm (s := a_0) Tryz.underlying80 gsz209 rfl rfl nz58_11 (lt_of_get nz58_11 hz58_11)) ?_
   refine Zi rfl (q_field gfa209_2 rfl) ?_
   refine Zi rfl (q_elf (s := a_0) gone73 rfl hz58_11 rfl) ?_
   refine Zi rfl (q_move rfl) ?_
   refine Zi rfl (q_move rfl) ?_
   obtain ⟨z63_12, nz63_12, hz63_12, hS⟩ := atm_s hS
   refine VD.deep z63_12.m hz63_12 (fun _ q => q) ?_
   refine Zi rfl (q_ixm (s := b_1) Tryz.underlying80 gsz209 rfl rfl nz63_12 (lt_of_get nz63_12 hz63_12)) ?_
   refine Zi rfl (q_field gfa209_2 rfl) ?_
   refine Zi rfl (q_elf (s := b_1) gone73 rfl hz63_12 rfl) ?_
   obtain ⟨y66_13, ey66_13, hS⟩ := bd_s hS
   refine Zi rfl (q_call (r14_Same_ct z58_11.work z63_12.work ey66_13) rfl (fun _ _ => rfl)) ?_
   refine Zi rfl (q_not rfl) ?_
   refine Zw rfl (q_pick_f rfl rfl) ?_
   refine VD.mt (!y66_13) [0, 1, 5, 68] (fun _ _ h => h) hS rfl
  clear hS
  rintro x68_2 hS
  refine Zcb hS (fun h68 hS => ?_) (fun h68 hS => ?_)
  ·
   refine Zq (Zr ?_)
   refine Zy ?_
   replace hS := up2 hS hK1
   cases hS
   exact Ze
  refine Zk ?_
  refine Zr ?_
  refine Zm ?_
  obtain ⟨b16, hS⟩ := gd_s hS
  refine Zu (q_add rfl rfl b16) ?_
  refine Za ?_
  refine VL.rnd (i5_1 + 1) [0, 1, 5] (fun _ _ h => h) (go2 hS hK1) rfl
 replace hS := up2 hS hK1
 refine Zx ?_
 refine Zq (Zr ?_)
 refine Zy ?_
 cases hS
 exact Ze
theorem r25_sameSteps_ct (a_0 : Sv Rectoref17Step) (b_1 : Sv Rectoref17Step) {r : Bool} (hS : Sh.r25_sameSteps a_0.l b_1.l = some r) :
 Ct Tryz.prog 155 [a_0.val, b_1.val] (a_0.ok.and b_1.ok) (Ow.emp) (X := Unit) (fun _ => .bool r) (fun _ => True) (fun _ => Mo.tt) (fun _ => Ow.emp) := by
 refine Zo Tryz.func155 Tryz.ntmps155 fun c => ?_
 unfold Sh.r25_sameSteps at hS
 refine Zq (Zr ?_)
 refine Zy ?_
 refine Zq (Zq (Zr ?_))
 refine Zm ?_
 refine Zu (q_ln (s := a_0) Tryz.underlying77 rfl) ?_
 refine Zm ?_
 refine Zu (q_ln (s := b_1) Tryz.underlying77 rfl) ?_
 refine Zu (q_neq rfl rfl) ?_
 refine Zl ?_
 refine Zcn hS (fun h10 hS => ?_) (fun h10 hS => ?_)
 ·
  refine Zq (Zr ?_)
  refine Zy ?_
  cases hS
  exact Ze
 refine Zk ?_
 refine Zq (Zq (Zr ?_))
 refine Zy ?_
 refine Zb ?_
 refine VC.iter (S := Int) (fun (i5_1 : Int) => i5_1) (fun (i5_1 : Int) => [(0, a_0.val), (1, b_1.val), (5, i64 i5_1)]) (fun (i5_1 : Int) => Mo.tt) (fun (i5_1 : Int) => Ow.emp) 0 [0, 1, 5] hS rfl ?_
 clear hS
 rintro i5_1 m1 y1 hS hK1
 refine Zq (Zq (Zr ?_))
 refine Zy ?_
 refine Zu (q_ln (s := a_0) Tryz.underlying77 rfl) ?_
 refine Zu (q_lss rfl rfl) ?_
 refine Zl ?_
 refine Zc hS (fun h14 hS => ?_) (fun h14 hS => ?_)
 ·
  refine Zk ?_
  refine Zq (Zb (Zq ?_))
  refine VC.draw ((List.range 9).map fun k => (k, true)) mixed (by kernel_rfl) (by kernel_rfl) (by kernel_rfl) ?_
  refine Zw rfl (q_move rfl) ?_
  refine Zw rfl (q_move rfl) ?_
  obtain ⟨z19_2, nz19_2, hz19_2, hS⟩ := at_s hS
  refine Zw rfl (q_ixm (s := a_0) Tryz.underlying77 gsz316 rfl rfl nz19_2 (lt_of_get nz19_2 hz19_2)) ?_
  refine Zw rfl (q_els (s := a_0) gagg316 rfl rfl hz19_2) ?_
  refine Zw rfl (q_move rfl) ?_
  refine Zw rfl (q_move rfl) ?_
  obtain ⟨z23_3, nz23_3, hz23_3, hS⟩ := at_s hS
  refine Zw rfl (q_ixm (s := b_1) Tryz.underlying77 gsz316 rfl rfl nz23_3 (lt_of_get nz23_3 hz23_3)) ?_
  refine Zw rfl (q_els (s := b_1) gagg316 rfl rfl hz23_3) ?_
  refine Zw rfl (q_stneq geqg316 (geqs316 z19_2.verb z19_2.commit z19_2.text z23_3.verb z23_3.commit z23_3.text) rfl rfl) ?_
  refine VD.to (fun _ _ h => h) ?_
  refine VC.keep (ρ' := [(0, a_0.val), (1, b_1.val), (5, i64 i5_1), (25, .bool (!decide (z19_2.verb = z23_3.verb ∧ z19_2.commit = z23_3.commit ∧ z19_2.text = z23_3.text)))]) [0, 1, 5, 25] rfl ?_
  refine Zcn hS (fun h25 hS => ?_) (fun h25 hS => ?_)
  ·
   refine Zq (Zr ?_)
   refine Zy ?_
   replace hS := up2 hS hK1
   cases hS
   exact Ze
  refine Zk ?_
  refine Zr ?_
  refine Zm ?_
  obtain ⟨b16, hS⟩ := gd_s hS
  refine Zu (q_add rfl rfl b16) ?_
  refine Za ?_
  refine VL.rnd (i5_1 + 1) [0, 1, 5] (fun _ _ h => h) (go2 hS hK1) rfl
 replace hS := up2 hS hK1
 refine Zx ?_
 refine Zq (Zr ?_)
 refine Zy ?_
 cases hS
 exact Ze
theorem r25_SameNow_ct (a_0 : Rectoref25Now) (b_1 : Rectoref25Now) {r : Bool} (hS : Sh.r25_SameNow a_0.pl b_1.pl = some r) :
 Ct Tryz.prog 70 [.agg #[a_0.work.val, a_0.index.val, a_0.refs.val, str a_0.head_branch, i64 a_0.head_commit, str a_0.seq_kind, i64 a_0.seq_other, str a_0.seq_text, a_0.seq_doing.val, a_0.seq_todo.val, i64 a_0.seq_made, str a_0.seq_branch, str a_0.seq_head_branch, i64 a_0.seq_head_commit, a_0.seq_index.val, a_0.seq_work.val, a_0.stash.val], .agg #[b_1.work.val, b_1.index.val, b_1.refs.val, str b_1.head_branch, i64 b_1.head_commit, str b_1.seq_kind, i64 b_1.seq_other, str b_1.seq_text, b_1.seq_doing.val, b_1.seq_todo.val, i64 b_1.seq_made, str b_1.seq_branch, str b_1.seq_head_branch, i64 b_1.seq_head_commit, b_1.seq_index.val, b_1.seq_work.val, b_1.stash.val]] (a_0.work.ok.and (a_0.index.ok.and (a_0.refs.ok.and (a_0.seq_doing.ok.and (a_0.seq_todo.ok.and (a_0.seq_index.ok.and (a_0.seq_work.ok.and (a_0.stash.ok.and (b_1.work.ok.and (b_1.index.ok.and (b_1.refs.ok.and (b_1.seq_doing.ok.and (b_1.seq_todo.ok.and (b_1.seq_index.ok.and (b_1.seq_work.ok.and b_1.stash.ok))))))))))))))) (Ow.emp) (X := Unit) (fun _ => .bool r) (fun _ => True) (fun _ => Mo.tt) (fun _ => Ow.emp) := by
 refine Zo Tryz.func70 Tryz.ntmps70 fun c => ?_
 unfold Sh.r25_SameNow at hS
 refine Zq (Zr ?_)
 refine VL.box (cs := [a_0.work.val, a_0.index.val, a_0.refs.val, str a_0.head_branch, i64 a_0.head_commit, str a_0.seq_kind, i64 a_0.seq_other, str a_0.seq_text, a_0.seq_doing.val, a_0.seq_todo.val, i64 a_0.seq_made, str a_0.seq_branch, str a_0.seq_head_branch, i64 a_0.seq_head_commit, a_0.seq_index.val, a_0.seq_work.val, a_0.stash.val]) rfl rfl (by decide) fun b2_1 => ?_
 refine VL.box (cs := [b_1.work.val, b_1.index.val, b_1.refs.val, str b_1.head_branch, i64 b_1.head_commit, str b_1.seq_kind, i64 b_1.seq_other, str b_1.seq_text, b_1.seq_doing.val, b_1.seq_todo.val, i64 b_1.seq_made, str b_1.seq_branch, str b_1.seq_head_branch, i64 b_1.seq_head_commit, b_1.seq_index.val, b_1.seq_work.val, b_1.stash.val]) rfl rfl (by decide) fun b3_2 => ?_
 refine Zy ?_
 refine Zq ?_
 refine VC.cutJ (S := Bool) (fun (x45_3 : Bool) => x45_3) (fun (x45_3 : Bool) => [(2, ptr b2_1 0), (3, ptr b3_2 0), (45, .bool x45_3)]) (fun (x45_3 : Bool) => Mo.tt) (fun (x45_3 : Bool) => Ow.star (Blk b3_2 [b_1.work.val, b_1.index.val, b_1.refs.val, str b_1.head_branch, i64 b_1.head_commit, str b_1.seq_kind, i64 b_1.seq_other, str b_1.seq_text, b_1.seq_doing.val, b_1.seq_todo.val, i64 b_1.seq_made, str b_1.seq_branch, str b_1.seq_head_branch, i64 b_1.seq_head_commit, b_1.seq_index.val, b_1.seq_work.val, b_1.stash.val] 82) (Ow.star (Blk b2_1 [a_0.work.val, a_0.index.val, a_0.refs.val, str a_0.head_branch, i64 a_0.head_commit, str a_0.seq_kind, i64 a_0.seq_other, str a_0.seq_text, a_0.seq_doing.val, a_0.seq_todo.val, i64 a_0.seq_made, str a_0.seq_branch, str a_0.seq_head_branch, i64 a_0.seq_head_commit, a_0.seq_index.val, a_0.seq_work.val, a_0.stash.val] 82) (Ow.emp))) hS ?_ ?_
 ·
  clear hS
  intro k4 hS
  refine Zr ?_
  refine Zu (q_field gfa82_0 rfl) ?_
  refine Zu (q_fe gone73 rfl rfl) ?_
  refine Zu (q_field gfa82_0 rfl) ?_
  refine Zu (q_fe gone73 rfl rfl) ?_
  obtain ⟨y12_5, ey12_5, hS⟩ := bd_s hS
  refine Zu (q_call (r14_Same_ct a_0.work b_1.work ey12_5) rfl (fun _ _ => rfl)) ?_
  refine Zu (q_not rfl) ?_
  refine Zm ?_
  refine Zspb 14 hS (fun h14 hS => ?_) (fun h14 hS => ?_)
  ·
   refine VL.runs 31 [(45, some true)] (by kernel_rfl) ?_
   refine VL.mt true [2, 3, 45] (fun _ _ h => h) hS rfl
  refine Zh (q_field gfa82_1 rfl) ?_
  refine Zh (q_fe gone74 rfl rfl) ?_
  refine Zh (q_field gfa82_1 rfl) ?_
  refine Zh (q_fe gone74 rfl rfl) ?_
  obtain ⟨y19_6, ey19_6, hS⟩ := bd_s hS
  refine Zh (q_call (r14_SameIndex_ct a_0.index b_1.index ey19_6) rfl (fun _ _ => rfl)) ?_
  refine Zh (q_not rfl) ?_
  refine Zy ?_
  refine Zspb 22 hS (fun h22 hS => ?_) (fun h22 hS => ?_)
  ·
   refine VL.runs 23 [(45, some true)] (by kernel_rfl) ?_
   refine VL.mt true [2, 3, 45] (fun _ _ h => h) hS rfl
  refine Zh (q_field gfa82_3 rfl) ?_
  refine Zh (q_fep (j := 3) (n := 2) gagg76 rfl rfl rfl) ?_
  refine Zh (q_field gfa82_3 rfl) ?_
  refine Zh (q_fep (j := 3) (n := 2) gagg76 rfl rfl rfl) ?_
  refine Zh (q_stneq geqg76 (geqs76 a_0.head_branch a_0.head_commit b_1.head_branch b_1.head_commit) rfl rfl) ?_
  refine Zy ?_
  refine Zspn 29 hS (fun h29 hS => ?_) (fun h29 hS => ?_)
  ·
   refine VL.runs 16 [(45, some true)] (by kernel_rfl) ?_
   refine VL.mt true [2, 3, 45] (fun _ _ h => h) hS rfl
  refine Zh (q_field gfa82_2 rfl) ?_
  refine Zh (q_fe gone75 rfl rfl) ?_
  refine Zh (q_ln (s := a_0.refs) Tryz.underlying75 rfl) ?_
  refine Zh (q_field gfa82_2 rfl) ?_
  refine Zh (q_fe gone75 rfl rfl) ?_
  refine Zh (q_ln (s := b_1.refs) Tryz.underlying75 rfl) ?_
  refine Zh (q_neq rfl rfl) ?_
  refine Zy ?_
  refine Zspn 38 hS (fun h38 hS => ?_) (fun h38 hS => ?_)
  ·
   refine VL.runs 7 [(45, some true)] (by kernel_rfl) ?_
   refine VL.mt true [2, 3, 45] (fun _ _ h => h) hS rfl
  refine Zh (q_field gfa82_5 rfl) ?_
  refine Zh (q_fe gone80 rfl rfl) ?_
  refine Zh (q_field gfa82_5 rfl) ?_
  refine Zh (q_fe gone80 rfl rfl) ?_
  obtain ⟨y43_7, ey43_7, hS⟩ := bd_s hS
  refine Zh (q_call (r25_SameStash_ct a_0.stash b_1.stash ey43_7) rfl (fun _ _ => rfl)) ?_
  refine Zh (q_not rfl) ?_
  refine Zf ?_
  refine VL.mt (!y43_7) [2, 3, 45] (fun _ _ h => h) hS rfl
 clear hS
 rintro x45_3 hS
 refine Zcb hS (fun h45 hS => ?_) (fun h45 hS => ?_)
 ·
  refine Zq (Zr ?_)
  refine Zy ?_
  cases hS
  exact Ze
 refine Zk ?_
 refine Zq (Zq (Zr ?_))
 refine Zy ?_
 refine Zb ?_
 refine VC.iter (S := Int) (fun (i5_8 : Int) => i5_8) (fun (i5_8 : Int) => [(2, ptr b2_1 0), (3, ptr b3_2 0), (5, i64 i5_8)]) (fun (i5_8 : Int) => Mo.tt) (fun (i5_8 : Int) => Ow.star (Blk b3_2 [b_1.work.val, b_1.index.val, b_1.refs.val, str b_1.head_branch, i64 b_1.head_commit, str b_1.seq_kind, i64 b_1.seq_other, str b_1.seq_text, b_1.seq_doing.val, b_1.seq_todo.val, i64 b_1.seq_made, str b_1.seq_branch, str b_1.seq_head_branch, i64 b_1.seq_head_commit, b_1.seq_index.val, b_1.seq_work.val, b_1.stash.val] 82) (Ow.star (Blk b2_1 [a_0.work.val, a_0.index.val, a_0.refs.val, str a_0.head_branch, i64 a_0.head_commit, str a_0.seq_kind, i64 a_0.seq_other, str a_0.seq_text, a_0.seq_doing.val, a_0.seq_todo.val, i64 a_0.seq_made, str a_0.seq_branch, str a_0.seq_head_branch, i64 a_0.seq_head_commit, a_0.seq_index.val, a_0.seq_work.val, a_0.stash.val] 82) (Ow.emp))) 0 [2, 3, 5] hS rfl ?_
 clear hS
 rintro i5_8 m1 y1 hS hK1
 refine Zq (Zq (Zr ?_))
 refine Zm ?_
 refine Zu (q_field gfa82_2 rfl) ?_
 refine Zu (q_fe gone75 rfl rfl) ?_
 refine Zu (q_ln (s := a_0.refs) Tryz.underlying75 rfl) ?_
 refine Zu (q_lss rfl rfl) ?_
 refine Zl ?_
 refine Zc hS (fun h50 hS => ?_) (fun h50 hS => ?_)
 ·
  refine Zk ?_
  refine Zq (Zb (Zq ?_))
  refine VC.draw ((List.range 11).map fun k => (k, true)) mixed (by kernel_rfl) (by kernel_rfl) (by kernel_rfl) ?_
  refine Zw rfl (q_field gfa82_2 rfl) ?_
  refine Zw rfl (q_fe gone75 rfl rfl) ?_
  refine Zw rfl (q_move rfl) ?_
  obtain ⟨z56_9, nz56_9, hz56_9, hS⟩ := at_s hS
  refine Zw rfl (q_ixm (s := a_0.refs) Tryz.underlying75 gsz205 rfl rfl nz56_9 (lt_of_get nz56_9 hz56_9)) ?_
  refine Zw rfl (q_els (s := a_0.refs) gagg205 rfl rfl hz56_9) ?_
  refine Zw rfl (q_field gfa82_2 rfl) ?_
  refine Zw rfl (q_fe gone75 rfl rfl) ?_
  refine Zw rfl (q_move rfl) ?_
  obtain ⟨z61_10, nz61_10, hz61_10, hS⟩ := at_s hS
  refine Zw rfl (q_ixm (s := b_1.refs) Tryz.underlying75 gsz205 rfl rfl nz61_10 (lt_of_get nz61_10 hz61_10)) ?_
  refine Zw rfl (q_els (s := b_1.refs) gagg205 rfl rfl hz61_10) ?_
  refine Zw rfl (q_stneq geqg205 (geqs205 z56_9.name z56_9.commit z61_10.name z61_10.commit) rfl rfl) ?_
  refine VD.to (fun _ _ h => h) ?_
  refine VC.keep (ρ' := [(2, ptr b2_1 0), (3, ptr b3_2 0), (5, i64 i5_8), (63, .bool (!decide (z56_9.name = z61_10.name ∧ z56_9.commit = z61_10.commit)))]) [2, 3, 5, 63] rfl ?_
  refine Zcn hS (fun h63 hS => ?_) (fun h63 hS => ?_)
  ·
   refine Zq (Zr ?_)
   refine Zy ?_
   replace hS := up2 hS hK1
   cases hS
   exact Ze
  refine Zk ?_
  refine Zr ?_
  refine Zm ?_
  obtain ⟨b52, hS⟩ := gd_s hS
  refine Zu (q_add rfl rfl b52) ?_
  refine Za ?_
  refine VL.rnd (i5_8 + 1) [2, 3, 5] (fun _ _ h => h) (go2 hS hK1) rfl
 replace hS := up2 hS hK1
 refine Zx ?_
 refine Zq (Zr ?_)
 refine Zu (q_field gfa82_4 rfl) ?_
 refine Zu (q_fep (j := 5) (n := 11) gagg79 rfl rfl rfl) ?_
 refine VL.alloc (cs := [str [], i64 0, str [], .slice none 0 0, .slice none 0 0, i64 0, str [], str [], i64 0, .slice none 0 0, .slice none 0 0]) (by kernel_rfl) (by decide) fun b6_11 => ?_
 refine Zv (vc := [str a_0.seq_kind, i64 a_0.seq_other, str a_0.seq_text, a_0.seq_doing.val, a_0.seq_todo.val, i64 a_0.seq_made, str a_0.seq_branch, str a_0.seq_head_branch, i64 a_0.seq_head_commit, a_0.seq_index.val, a_0.seq_work.val]) (cs' := [str a_0.seq_kind, i64 a_0.seq_other, str a_0.seq_text, a_0.seq_doing.val, a_0.seq_todo.val, i64 a_0.seq_made, str a_0.seq_branch, str a_0.seq_head_branch, i64 a_0.seq_head_commit, a_0.seq_index.val, a_0.seq_work.val]) rfl gsz79 ?_
 refine Zl ?_
 refine VC.keep (ρ' := [(3, ptr b3_2 0), (6, ptr b6_11 0)]) [3, 6] rfl ?_
 refine Zq (Zr ?_)
 refine Zu (q_field gfa82_4 rfl) ?_
 refine Zu (q_fep (j := 5) (n := 11) gagg79 rfl rfl rfl) ?_
 refine VL.alloc (cs := [str [], i64 0, str [], .slice none 0 0, .slice none 0 0, i64 0, str [], str [], i64 0, .slice none 0 0, .slice none 0 0]) (by kernel_rfl) (by decide) fun b7_12 => ?_
 refine Zv (vc := [str b_1.seq_kind, i64 b_1.seq_other, str b_1.seq_text, b_1.seq_doing.val, b_1.seq_todo.val, i64 b_1.seq_made, str b_1.seq_branch, str b_1.seq_head_branch, i64 b_1.seq_head_commit, b_1.seq_index.val, b_1.seq_work.val]) (cs' := [str b_1.seq_kind, i64 b_1.seq_other, str b_1.seq_text, b_1.seq_doing.val, b_1.seq_todo.val, i64 b_1.seq_made, str b_1.seq_branch, str b_1.seq_head_branch, i64 b_1.seq_head_commit, b_1.seq_index.val, b_1.seq_work.val]) rfl gsz79 ?_
 refine Zl ?_
 refine Zq (Zr ?_)
 refine Zu (q_field gfa79_0 rfl) ?_
 refine Zu (q_fe gone9 rfl rfl) ?_
 refine Zu (q_field gfa79_0 rfl) ?_
 refine Zu (q_fe gone9 rfl rfl) ?_
 refine Zy ?_
 refine Zsp 73 hS (fun h73 hS => ?_) (fun h73 hS => ?_)
 ·
  refine Zh (q_field gfa79_1 rfl) ?_
  refine Zh (q_fe gone3 rfl rfl) ?_
  refine Zh (q_field gfa79_1 rfl) ?_
  refine Zh (q_fe gone3 rfl rfl) ?_
  refine Zh (q_eql rfl rfl) ?_
  refine Zy ?_
  refine Zsp 80 hS (fun h80 hS => ?_) (fun h80 hS => ?_)
  ·
   refine Zh (q_field gfa79_2 rfl) ?_
   refine Zh (q_fe gone9 rfl rfl) ?_
   refine Zh (q_field gfa79_2 rfl) ?_
   refine Zh (q_fe gone9 rfl rfl) ?_
   refine Zh (q_seq rfl rfl) ?_
   refine Zy ?_
   refine Zsp 87 hS (fun h87 hS => ?_) (fun h87 hS => ?_)
   ·
    refine Zh (q_field gfa79_3 rfl) ?_
    refine Zh (q_fe gone77 rfl rfl) ?_
    refine Zh (q_field gfa79_3 rfl) ?_
    refine Zh (q_fe gone77 rfl rfl) ?_
    obtain ⟨y92_13, ey92_13, hS⟩ := bd_s hS
    refine Zh (q_call (r25_sameSteps_ct a_0.seq_doing b_1.seq_doing ey92_13) rfl (fun _ _ => rfl)) ?_
    refine Zy ?_
    refine Zspb 94 hS (fun h94 hS => ?_) (fun h94 hS => ?_)
    ·
     refine Zh (q_field gfa79_4 rfl) ?_
     refine Zh (q_fe gone77 rfl rfl) ?_
     refine Zh (q_field gfa79_4 rfl) ?_
     refine Zh (q_fe gone77 rfl rfl) ?_
     obtain ⟨y99_14, ey99_14, hS⟩ := bd_s hS
     refine Zh (q_call (r25_sameSteps_ct a_0.seq_todo b_1.seq_todo ey99_14) rfl (fun _ _ => rfl)) ?_
     refine Zy ?_
     refine Zspb 101 hS (fun h101 hS => ?_) (fun h101 hS => ?_)
     ·
      refine Zh (q_field gfa79_5 rfl) ?_
      refine Zh (q_fe gone3 rfl rfl) ?_
      refine Zh (q_field gfa79_5 rfl) ?_
      refine Zh (q_fe gone3 rfl rfl) ?_
      refine Zh (q_eql rfl rfl) ?_
      refine Zy ?_
      refine Zsp 108 hS (fun h108 hS => ?_) (fun h108 hS => ?_)
      ·
       refine Zh (q_field gfa79_6 rfl) ?_
       refine Zh (q_fe gone9 rfl rfl) ?_
       refine Zh (q_field gfa79_6 rfl) ?_
       refine Zh (q_fe gone9 rfl rfl) ?_
       refine Zh (q_seq rfl rfl) ?_
       refine Zy ?_
       refine Zsp 115 hS (fun h115 hS => ?_) (fun h115 hS => ?_)
       ·
        refine Zh (q_field gfa79_7 rfl) ?_
        refine Zh (q_fep (j := 7) (n := 2) gagg76 rfl rfl rfl) ?_
        refine Zh (q_field gfa79_7 rfl) ?_
        refine Zh (q_fep (j := 7) (n := 2) gagg76 rfl rfl rfl) ?_
        refine Zh (q_steql geqg76 (geqs76 a_0.seq_head_branch a_0.seq_head_commit b_1.seq_head_branch b_1.seq_head_commit) rfl rfl) ?_
        refine Zy ?_
        refine Zsp 122 hS (fun h122 hS => ?_) (fun h122 hS => ?_)
        ·
         refine Zh (q_field gfa79_8 rfl) ?_
         refine Zh (q_fe gone74 rfl rfl) ?_
         refine Zh (q_field gfa79_8 rfl) ?_
         refine Zh (q_fe gone74 rfl rfl) ?_
         obtain ⟨y127_15, ey127_15, hS⟩ := bd_s hS
         refine Zh (q_call (r14_SameIndex_ct a_0.seq_index b_1.seq_index ey127_15) rfl (fun _ _ => rfl)) ?_
         refine Zy ?_
         refine Zspb 129 hS (fun h129 hS => ?_) (fun h129 hS => ?_)
         ·
          refine Zh (q_field gfa79_9 rfl) ?_
          refine Zh (q_fe gone73 rfl rfl) ?_
          refine Zh (q_field gfa79_9 rfl) ?_
          refine Zh (q_fe gone73 rfl rfl) ?_
          obtain ⟨y134_16, ey134_16, hS⟩ := bd_s hS
          refine Zh (q_call (r14_Same_ct a_0.seq_work b_1.seq_work ey134_16) rfl (fun _ _ => rfl)) ?_
          refine Zy ?_
          refine VC.keep (ρ' := [(4, .bool y134_16)]) [4] rfl ?_
          cases hS
          exact Ze
         refine VL.runs 7 [(4, some false)] (by kernel_rfl) ?_
         refine Zl ?_
         refine VC.keep (ρ' := [(4, .bool false)]) [4] rfl ?_
         cases hS
         exact Ze
        refine VL.runs 14 [(4, some false)] (by kernel_rfl) ?_
        refine Zl ?_
        refine VC.keep (ρ' := [(4, .bool false)]) [4] rfl ?_
        cases hS
        exact Ze
       refine VL.runs 21 [(4, some false)] (by kernel_rfl) ?_
       refine Zl ?_
       refine VC.keep (ρ' := [(4, .bool false)]) [4] rfl ?_
       cases hS
       exact Ze
      refine VL.runs 28 [(4, some false)] (by kernel_rfl) ?_
      refine Zl ?_
      refine VC.keep (ρ' := [(4, .bool false)]) [4] rfl ?_
      cases hS
      exact Ze
     refine VL.runs 35 [(4, some false)] (by kernel_rfl) ?_
     refine Zl ?_
     refine VC.keep (ρ' := [(4, .bool false)]) [4] rfl ?_
     cases hS
     exact Ze
    refine VL.runs 42 [(4, some false)] (by kernel_rfl) ?_
    refine Zl ?_
    refine VC.keep (ρ' := [(4, .bool false)]) [4] rfl ?_
    cases hS
    exact Ze
   refine VL.runs 49 [(4, some false)] (by kernel_rfl) ?_
   refine Zl ?_
   refine VC.keep (ρ' := [(4, .bool false)]) [4] rfl ?_
   cases hS
   exact Ze
  refine VL.runs 56 [(4, some false)] (by kernel_rfl) ?_
  refine Zl ?_
  refine VC.keep (ρ' := [(4, .bool false)]) [4] rfl ?_
  cases hS
  exact Ze
 refine VL.runs 63 [(4, some false)] (by kernel_rfl) ?_
 refine Zl ?_
 refine VC.keep (ρ' := [(4, .bool false)]) [4] rfl ?_
 cases hS
 exact Ze
theorem l25_few_ct (p_0 : Rectolaw25Plain) {r : Bool} (hS : Sh.l25_few p_0.pl = some r) :
 Ct Tryz.prog 25 [.agg (zRectolaw25Plain p_0).toArray] (p_0.now_work.ok.and (p_0.now_index.ok.and (p_0.now_refs.ok.and (p_0.now_seq_doing.ok.and (p_0.now_seq_todo.ok.and (p_0.now_seq_index.ok.and (p_0.now_seq_work.ok.and (p_0.now_stash.ok.and (p_0.commits.ok.and (p_0.back.ok.and p_0.forth.ok)))))))))) (Ow.emp) (X := Unit) (fun _ => .bool r) (fun _ => True) (fun _ => Mo.tt) (fun _ => Ow.emp) := by
 refine Zo Tryz.func25 Tryz.ntmps25 fun c => ?_
 unfold Sh.l25_few at hS
 refine Zq (Zr ?_)
 refine VL.box (cs := (zRectolaw25Plain p_0)) rfl rfl (by decide) fun b1_1 => ?_
 refine Zy ?_
 refine Zq ?_
 refine VC.cutJ (S := Bool) (fun (x27_2 : Bool) => x27_2) (fun (x27_2 : Bool) => [(1, ptr b1_1 0), (27, .bool x27_2)]) (fun (x27_2 : Bool) => Mo.tt) (fun (x27_2 : Bool) => Ow.star (Blk b1_1 (zRectolaw25Plain p_0) 71) (Ow.emp)) hS ?_ ?_
 ·
  clear hS
  intro k3 hS
  refine Zr ?_
  refine Zu (q_field gfa71_0 rfl) ?_
  refine Zu (q_fep (j := 0) (n := 17) gagg61 rfl rfl rfl) ?_
  obtain ⟨y8_4, ey8_4, hS⟩ := bd_s hS
  refine Zu (q_call (l25_fewNow_ct (⟨p_0.now_work, p_0.now_index, p_0.now_refs, p_0.now_head_branch, p_0.now_head_commit, p_0.now_seq_kind, p_0.now_seq_other, p_0.now_seq_text, p_0.now_seq_doing, p_0.now_seq_todo, p_0.now_seq_made, p_0.now_seq_branch, p_0.now_seq_head_branch, p_0.now_seq_head_commit, p_0.now_seq_index, p_0.now_seq_work, p_0.now_stash⟩ : StateNow) ey8_4) rfl (fun _ _ => rfl)) ?_
  refine Zu (q_not rfl) ?_
  refine Zm ?_
  refine Zspb 10 hS (fun h10 hS => ?_) (fun h10 hS => ?_)
  ·
   refine VL.runs 17 [(27, some true)] (by kernel_rfl) ?_
   refine VL.mt true [1, 27] (fun _ _ h => h) hS rfl
  refine Zh (q_field gfa71_1 rfl) ?_
  refine Zh (q_fe gone68 rfl rfl) ?_
  refine Zh (q_lnm StateCommit.pl (s := p_0.commits) Tryz.underlying68 rfl) ?_
  refine Zh (q_gtr rfl rfl) ?_
  refine Zy ?_
  refine Zsp 16 hS (fun h16 hS => ?_) (fun h16 hS => ?_)
  ·
   refine VL.runs 11 [(27, some true)] (by kernel_rfl) ?_
   refine VL.mt true [1, 27] (fun _ _ h => h) hS rfl
  refine Zh (q_field gfa71_2 rfl) ?_
  refine Zh (q_fe gone69 rfl rfl) ?_
  refine Zh (q_lnm StateNow.pl (s := p_0.back) Tryz.underlying69 rfl) ?_
  refine Zh (q_gtr rfl rfl) ?_
  refine Zy ?_
  refine Zsp 22 hS (fun h22 hS => ?_) (fun h22 hS => ?_)
  ·
   refine VL.runs 5 [(27, some true)] (by kernel_rfl) ?_
   refine VL.mt true [1, 27] (fun _ _ h => h) hS rfl
  refine Zh (q_field gfa71_3 rfl) ?_
  refine Zh (q_fe gone69 rfl rfl) ?_
  refine Zh (q_lnm StateNow.pl (s := p_0.forth) Tryz.underlying69 rfl) ?_
  refine Zh (q_gtr rfl rfl) ?_
  refine Zf ?_
  refine VL.mt (decide (5 < ((p_0.forth.l.map StateNow.pl).length : Int))) [1, 27] (fun _ _ h => h) hS rfl
 clear hS
 rintro x27_2 hS
 refine Zcb hS (fun h27 hS => ?_) (fun h27 hS => ?_)
 ·
  refine Zq (Zr ?_)
  refine Zy ?_
  cases hS
  exact Ze
 refine Zk ?_
 refine Zq (Zq (Zr ?_))
 refine Zy ?_
 refine Zb ?_
 refine VC.iter (S := Int) (fun (i3_5 : Int) => i3_5) (fun (i3_5 : Int) => [(1, ptr b1_1 0), (3, i64 i3_5)]) (fun (i3_5 : Int) => Mo.tt) (fun (i3_5 : Int) => Ow.star (Blk b1_1 (zRectolaw25Plain p_0) 71) (Ow.emp)) 0 [1, 3] hS rfl ?_
 clear hS
 rintro i3_5 m1 y1 hS hK1
 refine Zq (Zq (Zr ?_))
 refine Zm ?_
 refine Zu (q_field gfa71_1 rfl) ?_
 refine Zu (q_fe gone68 rfl rfl) ?_
 refine Zu (q_lnm StateCommit.pl (s := p_0.commits) Tryz.underlying68 rfl) ?_
 refine Zu (q_lss rfl rfl) ?_
 refine Zl ?_
 refine Zc hS (fun h32 hS => ?_) (fun h32 hS => ?_)
 ·
  refine Zk ?_
  refine Zq (Zb ?_)
  refine VC.cutJ (S := Bool) (fun (x62_6 : Bool) => x62_6) (fun (x62_6 : Bool) => [(1, ptr b1_1 0), (3, i64 i3_5), (62, .bool x62_6)]) (fun (x62_6 : Bool) => Mo.tt) (fun (x62_6 : Bool) => Ow.star (Blk b1_1 (zRectolaw25Plain p_0) 71) (Ow.emp)) hS ?_ ?_
  ·
   clear hS
   intro k7 hS
   refine Zr ?_
   refine Zu (q_field gfa71_1 rfl) ?_
   refine Zu (q_fe gone68 rfl rfl) ?_
   refine Zm ?_
   obtain ⟨z38_8, nz38_8, hz38_8, hS⟩ := atm_s hS
   refine VL.deep z38_8.m hz38_8 (fun _ q => q) ?_
   refine Zu (q_ixm (s := p_0.commits) Tryz.underlying68 gsz110 rfl rfl nz38_8 (lt_of_get nz38_8 hz38_8)) ?_
   refine Zu (q_field gfa110_0 rfl) ?_
   refine Zu (q_elf (s := p_0.commits) gone50 rfl hz38_8 rfl) ?_
   obtain ⟨y41_9, ey41_9, hS⟩ := bd_s hS
   refine Zu (q_call (l14_Few_ct z38_8.tree ey41_9) rfl (fun _ _ => rfl)) ?_
   refine Zu (q_not rfl) ?_
   refine Zm ?_
   refine Zspb 43 hS (fun h43 hS => ?_) (fun h43 hS => ?_)
   ·
    refine VL.runs 19 [(62, some true)] (by kernel_rfl) ?_
    refine VL.mt true [1, 3, 62] (fun _ _ h => h) hS rfl
   refine Zh (q_field gfa71_1 rfl) ?_
   refine Zh (q_fe gone68 rfl rfl) ?_
   refine Zg ?_
   obtain ⟨z47_10, nz47_10, hz47_10, hS⟩ := atm_s hS
   refine VL.deep z47_10.m hz47_10 (fun _ q => q) ?_
   refine Zh (q_ixm (s := p_0.commits) Tryz.underlying68 gsz110 rfl rfl nz47_10 (lt_of_get nz47_10 hz47_10)) ?_
   refine Zh (q_field gfa110_1 rfl) ?_
   refine Zh (q_elf (s := p_0.commits) gone32 rfl hz47_10 rfl) ?_
   refine Zh (q_ln (s := z47_10.parents) Tryz.underlying32 rfl) ?_
   refine Zh (q_gtr rfl rfl) ?_
   refine Zy ?_
   refine Zsp 53 hS (fun h53 hS => ?_) (fun h53 hS => ?_)
   ·
    refine VL.runs 9 [(62, some true)] (by kernel_rfl) ?_
    refine VL.mt true [1, 3, 62] (fun _ _ h => h) hS rfl
   refine Zh (q_field gfa71_1 rfl) ?_
   refine Zh (q_fe gone68 rfl rfl) ?_
   refine Zg ?_
   obtain ⟨z57_11, nz57_11, hz57_11, hS⟩ := atm_s hS
   refine VL.deep z57_11.m hz57_11 (fun _ q => q) ?_
   refine Zh (q_ixm (s := p_0.commits) Tryz.underlying68 gsz110 rfl rfl nz57_11 (lt_of_get nz57_11 hz57_11)) ?_
   refine Zh (q_field gfa110_3 rfl) ?_
   refine Zh (q_elf (s := p_0.commits) gone9 rfl hz57_11 rfl) ?_
   refine Zh (q_slen Tryz.underlying9 rfl) ?_
   refine Zh (q_gtr rfl rfl) ?_
   refine Zf ?_
   refine VL.mt (decide (300 < (z57_11.text.length : Int))) [1, 3, 62] (fun _ _ h => h) hS rfl
  clear hS
  rintro x62_6 hS
  refine Zcb hS (fun h62 hS => ?_) (fun h62 hS => ?_)
  ·
   refine Zq (Zr ?_)
   refine Zy ?_
   replace hS := up2 hS hK1
   cases hS
   exact Ze
  refine Zk ?_
  refine Zr ?_
  refine Zm ?_
  obtain ⟨b34, hS⟩ := gd_s hS
  refine Zu (q_add rfl rfl b34) ?_
  refine Za ?_
  refine VL.rnd (i3_5 + 1) [1, 3] (fun _ _ h => h) (go2 hS hK1) rfl
 replace hS := up2 hS hK1
 refine Zx ?_
 refine Zq (Zq (Zr ?_))
 refine Zy ?_
 refine Zb ?_
 refine VC.iter (S := Int) (fun (i4_12 : Int) => i4_12) (fun (i4_12 : Int) => [(1, ptr b1_1 0), (4, i64 i4_12)]) (fun (i4_12 : Int) => Mo.tt) (fun (i4_12 : Int) => Ow.star (Blk b1_1 (zRectolaw25Plain p_0) 71) (Ow.emp)) 0 [1, 4] hS rfl ?_
 clear hS
 rintro i4_12 m1 y1 hS hK1
 refine Zq (Zq (Zr ?_))
 refine Zm ?_
 refine Zu (q_field gfa71_2 rfl) ?_
 refine Zu (q_fe gone69 rfl rfl) ?_
 refine Zu (q_lnm StateNow.pl (s := p_0.back) Tryz.underlying69 rfl) ?_
 refine Zu (q_lss rfl rfl) ?_
 refine Zl ?_
 refine Zc hS (fun h67 hS => ?_) (fun h67 hS => ?_)
 ·
  refine Zk ?_
  refine Zq (Zb (Zq (Zr ?_)))
  refine Zu (q_field gfa71_2 rfl) ?_
  refine Zu (q_fe gone69 rfl rfl) ?_
  refine Zm ?_
  obtain ⟨z73_13, nz73_13, hz73_13, hS⟩ := atm_s hS
  refine VL.deep z73_13.m hz73_13 (fun _ q => q) ?_
  refine Zu (q_ixm (s := p_0.back) Tryz.underlying69 gsz61 rfl rfl nz73_13 (lt_of_get nz73_13 hz73_13)) ?_
  refine Zu (q_els (s := p_0.back) gagg61 rfl rfl hz73_13) ?_
  obtain ⟨y75_14, ey75_14, hS⟩ := bd_s hS
  refine Zu (q_call (l25_fewNow_ct (z73_13 : StateNow) ey75_14) rfl (fun _ _ => rfl)) ?_
  refine Zu (q_not rfl) ?_
  refine Zl ?_
  refine VC.keep (ρ' := [(1, ptr b1_1 0), (4, i64 i4_12), (76, .bool (!y75_14))]) [1, 4, 76] rfl ?_
  refine Zcb hS (fun h76 hS => ?_) (fun h76 hS => ?_)
  ·
   refine Zq (Zr ?_)
   refine Zy ?_
   replace hS := up2 hS hK1
   cases hS
   exact Ze
  refine Zk ?_
  refine Zr ?_
  refine Zm ?_
  obtain ⟨b69, hS⟩ := gd_s hS
  refine Zu (q_add rfl rfl b69) ?_
  refine Za ?_
  refine VL.rnd (i4_12 + 1) [1, 4] (fun _ _ h => h) (go2 hS hK1) rfl
 replace hS := up2 hS hK1
 refine Zx ?_
 refine Zq (Zq (Zr ?_))
 refine Zy ?_
 refine Zb ?_
 refine VC.iter (S := Int) (fun (i5_15 : Int) => i5_15) (fun (i5_15 : Int) => [(1, ptr b1_1 0), (5, i64 i5_15)]) (fun (i5_15 : Int) => Mo.tt) (fun (i5_15 : Int) => Ow.star (Blk b1_1 (zRectolaw25Plain p_0) 71) (Ow.emp)) 0 [1, 5] hS rfl ?_
 clear hS
 rintro i5_15 m1 y1 hS hK1
 refine Zq (Zq (Zr ?_))
 refine Zm ?_
 refine Zu (q_field gfa71_3 rfl) ?_
 refine Zu (q_fe gone69 rfl rfl) ?_
 refine Zu (q_lnm StateNow.pl (s := p_0.forth) Tryz.underlying69 rfl) ?_
 refine Zu (q_lss rfl rfl) ?_
 refine Zl ?_
 refine Zc hS (fun h81 hS => ?_) (fun h81 hS => ?_)
 ·
  refine Zk ?_
  refine Zq (Zb (Zq (Zr ?_)))
  refine Zu (q_field gfa71_3 rfl) ?_
  refine Zu (q_fe gone69 rfl rfl) ?_
  refine Zm ?_
  obtain ⟨z87_16, nz87_16, hz87_16, hS⟩ := atm_s hS
  refine VL.deep z87_16.m hz87_16 (fun _ q => q) ?_
  refine Zu (q_ixm (s := p_0.forth) Tryz.underlying69 gsz61 rfl rfl nz87_16 (lt_of_get nz87_16 hz87_16)) ?_
  refine Zu (q_els (s := p_0.forth) gagg61 rfl rfl hz87_16) ?_
  obtain ⟨y89_17, ey89_17, hS⟩ := bd_s hS
  refine Zu (q_call (l25_fewNow_ct (z87_16 : StateNow) ey89_17) rfl (fun _ _ => rfl)) ?_
  refine Zu (q_not rfl) ?_
  refine Zl ?_
  refine VC.keep (ρ' := [(1, ptr b1_1 0), (5, i64 i5_15), (90, .bool (!y89_17))]) [1, 5, 90] rfl ?_
  refine Zcb hS (fun h90 hS => ?_) (fun h90 hS => ?_)
  ·
   refine Zq (Zr ?_)
   refine Zy ?_
   replace hS := up2 hS hK1
   cases hS
   exact Ze
  refine Zk ?_
  refine Zr ?_
  refine Zm ?_
  obtain ⟨b83, hS⟩ := gd_s hS
  refine Zu (q_add rfl rfl b83) ?_
  refine Za ?_
  refine VL.rnd (i5_15 + 1) [1, 5] (fun _ _ h => h) (go2 hS hK1) rfl
 replace hS := up2 hS hK1
 refine Zx ?_
 refine Zq (Zr ?_)
 refine Zy ?_
 cases hS
 exact Ze
end Go.Proofs.YthbccdlpalenlaaGreatDoor
end
