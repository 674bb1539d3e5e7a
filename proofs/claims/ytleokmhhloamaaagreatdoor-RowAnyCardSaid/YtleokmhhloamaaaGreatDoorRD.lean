/- Part of the proofs of: On any row of files the program tells what the document tells: whether it may be, and gets, puts, cuts, clears. -/
import Derived.Test.YtleokmhhloamaaaGreatDoorRC
set_option linter.unusedVariables false
set_option linter.unusedSimpArgs false
set_option linter.unusedSectionVars false
section
set_option linter.unusedVariables false
namespace Go.Proofs.YtleokmhhloamaaaGreatDoor
set_option maxHeartbeats 4000000
set_option maxRecDepth 100000
open Go.RowKit Go.V
open Go.S hiding Str
theorem rectolaw14_known_ct  {r : Bool} (hS : Sh.rectolaw14_known = some r) :
 Ct Tryz.prog 19 [] Mo.tt (Ow.emp) (X := Unit) (fun _ => .bool r) (fun _ => True) (fun _ => Mo.tt) (fun _ => Ow.emp) := by
 refine Ct.of Tryz.func19 rfl (by kernel_rfl) Tryz.ntmps19 (by simp) fun c => ?_
 unfold Sh.rectolaw14_known at hS
 refine Zq (Zr ?_)
 refine Za ?_
 refine Zl ?_
 refine Zq (Zr ?_)
 refine VL.q (q_build (vs := [(0, str [98]), (1, i64 1), (2, str [120])]) (cs := #[str [98], i64 1, str [120]]) rfl (by kernel_rfl)) (by decide) ?_
 obtain ⟨y8_1, ey8_1, hS⟩ := bd_s hS
 refine VL.callF (files_Row_Put_ct ⟨none, 0, []⟩ (⟨[98], 1, [120]⟩ : FilesFile) ey8_1) rfl (by decide) ?_
 rintro q8_1_0 rfl
 try dsimp only
 refine VL.q (q_build (vs := [(0, str [97]), (1, i64 1)]) (cs := #[str [97], i64 1, str []]) rfl (by kernel_rfl)) (by decide) ?_
 obtain ⟨y10_2, ey10_2, hS⟩ := bd_s hS
 refine VL.callF (files_Row_Put_ct q8_1_0 (⟨[97], 1, []⟩ : FilesFile) ey10_2) rfl (by decide) ?_
 rintro q10_2_0 rfl
 try dsimp only
 refine Za ?_
 refine Zl ?_
 refine Zq (Zr ?_)
 refine Zm ?_
 obtain ⟨y13_3, ey13_3, hS⟩ := bd_s hS
 refine VL.q (q_call (files_Row_Get_ct q10_2_0 [98] ey13_3) rfl (fun _ _ => rfl)) (by decide) ?_
 refine Zm ?_
 refine VL.q (q_extract rfl rfl) (by decide) ?_
 refine VL.q (q_extract rfl rfl) (by decide) ?_
 refine VL.alloc (cs := [str [], i64 0, str []]) (by kernel_rfl) (by decide) fun b2_4 => ?_
 refine VL.store (vc := [str y13_3.1.path, i64 y13_3.1.mode, str y13_3.1.data]) (cs' := [str y13_3.1.path, i64 y13_3.1.mode, str y13_3.1.data]) rfl rfl rfl gsz42 rfl rfl (Nat.le_of_ble_eq_true rfl) rfl ?_
 refine Za ?_
 refine Zl ?_
 refine VC.keep [1, 2, 3] rfl ?_
 refine Zq (Zr ?_)
 refine Zm ?_
 refine VL.q (q_build (vs := [(0, str [98]), (1, i64 2), (2, str [120])]) (cs := #[str [98], i64 2, str [120]]) rfl (by kernel_rfl)) (by decide) ?_
 obtain ⟨y18_5, ey18_5, hS⟩ := bd_s hS
 refine VL.callF (files_Row_Put_ct q10_2_0 (⟨[98], 2, [120]⟩ : FilesFile) ey18_5) rfl (by decide) ?_
 rintro q18_5_0 rfl
 try dsimp only
 refine Za ?_
 refine Zl ?_
 refine Zq (Zr ?_)
 refine Zm ?_
 refine Zm ?_
 obtain ⟨y21_6, ey21_6, hS⟩ := bd_s hS
 refine VL.callF (files_Diff_ct q10_2_0 q18_5_0 ey21_6) rfl (by decide) ?_
 rintro q21_6_0 rfl
 try dsimp only
 refine Za ?_
 refine Zl ?_
 refine Zq (Zr ?_)
 refine Zm ?_
 refine Zm ?_
 refine VL.lit (α := Sv FilesFile) (xs := [.tmp 22, .tmp 23]) (vs := [q10_2_0.val, q18_5_0.val]) [q10_2_0, q18_5_0] Tryz.underlying171 glit38 (by decide) rfl rfl rfl rfl (by decide) (fun h m => List.forall_mem_cons.2 ⟨InM.out (X := q10_2_0.ok) h m, List.forall_mem_cons.2 ⟨InM.out (X := q18_5_0.ok) h m, fun _ h => by cases h⟩⟩) (by decide) (fun s24_7 hs24_7 => ?_) (by decide)
 replace hS := lt_to (congrArg (List.map Sv.l) hs24_7) hS
 obtain ⟨y25_9, ey25_9, hS⟩ := bd_s hS
 refine VL.callF (files_Paths_ct s24_7 ey25_9) rfl (by decide) ?_
 rintro q25_9_0 rfl
 try dsimp only
 refine Za ?_
 refine Zl ?_
 refine VC.keep [1, 2, 3, 4, 5, 6] rfl ?_
 refine Zq (Zr ?_)
 refine Zm ?_
 refine VL.q (q_ln (s := q10_2_0) Tryz.underlying38 rfl) (by decide) ?_
 refine VL.q (q_eql rfl rfl) (by decide) ?_
 refine Zm ?_
 refine VL.split_dec 29 rfl (fun h29 => ?_) (fun h29 => ?_)
 ·
  replace hS := it_t h29 hS
  refine Zg ?_
  obtain ⟨z31_10, nz31_10, hz31_10, hS⟩ := at_s hS
  refine VL.gy rfl rfl (q_ixm (s := q10_2_0) Tryz.underlying38 gsz42 rfl rfl nz31_10 (lt_of_get nz31_10 hz31_10)) (by decide) ?_
  refine VL.gy rfl rfl (q_field gfa42_0 rfl) (by decide) ?_
  refine VL.gy rfl rfl (q_elf (s := q10_2_0) gone9 rfl hz31_10 rfl) (by decide) ?_
  refine VL.gy rfl rfl (q_seq rfl rfl) (by decide) ?_
  refine Zt ?_
  refine Zm ?_
  refine VL.split_dec 36 rfl (fun h36 => ?_) (fun h36 => ?_)
  ·
   replace hS := it_t h36 hS
   refine VL.gy rfl rfl (q_field gfa42_2 rfl) (by decide) ?_
   refine VL.gy rfl rfl (q_fe gone9 rfl rfl) (by decide) ?_
   refine VL.gy rfl rfl (q_seq rfl rfl) (by decide) ?_
   refine Zt ?_
   refine Zm ?_
   refine VL.split_dec 41 rfl (fun h41 => ?_) (fun h41 => ?_)
   ·
    replace hS := it_t h41 hS
    refine Zg ?_
    refine Zt ?_
    refine Zm ?_
    refine VL.split 44 rfl (fun h44 => ?_) (fun h44 => ?_)
    ·
     replace hS := it_t h44 hS
     refine Zg ?_
     refine VL.guard rfl rfl ?_
     obtain ⟨y46_11, ey46_11, hS⟩ := bd_s hS
     refine VL.callF (files_Row_Check_ct q10_2_0 ey46_11) rfl (by decide) ?_
     rintro q46_11_0 rfl
     try dsimp only
     refine VL.gy rfl rfl (q_ereq Tryz.underlying29 rfl) (by decide) ?_
     refine Zt ?_
     refine Zm ?_
     refine VL.split_dec 49 rfl (fun h49 => ?_) (fun h49 => ?_)
     ·
      replace hS := it_t h49 hS
      refine Zg ?_
      refine VL.gy rfl rfl (q_ln (s := q21_6_0) Tryz.underlying126 rfl) (by decide) ?_
      refine VL.gy rfl rfl (q_eql rfl rfl) (by decide) ?_
      refine Zt ?_
      refine Zm ?_
      refine VL.split_dec 54 rfl (fun h54 => ?_) (fun h54 => ?_)
      ·
       replace hS := it_t h54 hS
       refine Zg ?_
       obtain ⟨z56_12, nz56_12, hz56_12, hS⟩ := at_s hS
       refine VL.gy rfl rfl (q_ixm (s := q21_6_0) Tryz.underlying126 gsz130 rfl rfl nz56_12 (lt_of_get nz56_12 hz56_12)) (by decide) ?_
       refine VL.gy rfl rfl (q_field gfa130_1 rfl) (by decide) ?_
       refine VL.gy rfl rfl (q_elf (s := q21_6_0) gone9 rfl hz56_12 rfl) (by decide) ?_
       refine VL.gy rfl rfl (q_seq rfl rfl) (by decide) ?_
       refine Zt ?_
       refine Zm ?_
       refine VL.split_dec 61 rfl (fun h61 => ?_) (fun h61 => ?_)
       ·
        replace hS := it_t h61 hS
        refine Zg ?_
        refine VL.gy rfl rfl (q_ln (s := q25_9_0) Tryz.underlying82 rfl) (by decide) ?_
        refine VL.gy rfl rfl (q_eql rfl rfl) (by decide) ?_
        refine Zt ?_
        refine Zm ?_
        refine VL.split_dec 66 rfl (fun h66 => ?_) (fun h66 => ?_)
        ·
         replace hS := it_t h66 hS
         refine Zg ?_
         refine VL.guard rfl rfl ?_
         obtain ⟨y68_13, ey68_13, hS⟩ := bd_s hS
         refine VL.callF (files_Row_Cut_ct q10_2_0 [97] ey68_13) rfl (by decide) ?_
         rintro q68_13_0 rfl
         try dsimp only
         refine VL.gy rfl rfl (q_ln (s := q68_13_0) Tryz.underlying38 rfl) (by decide) ?_
         refine VL.gy rfl rfl (q_eql rfl rfl) (by decide) ?_
         refine Zt ?_
         refine Zm ?_
         refine VL.split_dec 72 rfl (fun h72 => ?_) (fun h72 => ?_)
         ·
          replace hS := it_t h72 hS
          refine Zg ?_
          refine VL.guard rfl rfl ?_
          obtain ⟨y74_14, ey74_14, hS⟩ := bd_s hS
          refine VL.callF (files_Row_Clear_ct q10_2_0 [97, 47, 120] ey74_14) rfl (by decide) ?_
          rintro q74_14_0 rfl
          try dsimp only
          refine VL.gy rfl rfl (q_ln (s := q74_14_0) Tryz.underlying38 rfl) (by decide) ?_
          refine VL.gy rfl rfl (q_eql rfl rfl) (by decide) ?_
          refine Zt ?_
          refine Zm ?_
          refine VL.split_dec 78 rfl (fun h78 => ?_) (fun h78 => ?_)
          ·
           replace hS := it_t h78 hS
           refine Zg ?_
           refine Zg ?_
           obtain ⟨y81_15, ey81_15, hS⟩ := bd_s hS
           refine VL.gy rfl rfl (q_call (files_Row_Same_ct q10_2_0 q18_5_0 ey81_15) rfl (fun _ _ => rfl)) (by decide) ?_
           refine VL.gy rfl rfl (q_not rfl) (by decide) ?_
           refine Zt ?_
           refine Za ?_
           refine Zl ?_
           refine VC.keep [0] rfl ?_
           cases hS
           exact Ze
          replace hS := it_f h78 hS
          refine Zn ?_
          refine Zn ?_
          refine Zn ?_
          refine Zn ?_
          refine Zf ?_
          refine Za ?_
          refine Zl ?_
          refine VC.keep [0] rfl ?_
          cases hS
          exact Ze
         replace hS := it_f h72 hS
         refine Zn ?_
         refine Zn ?_
         refine Zn ?_
         refine Zn ?_
         refine Zf ?_
         refine Zm ?_
         refine Zn ?_
         refine Zn ?_
         refine Zn ?_
         refine Zn ?_
         refine Zf ?_
         refine Za ?_
         refine Zl ?_
         refine VC.keep [0] rfl ?_
         cases hS
         exact Ze
        replace hS := it_f h66 hS
        refine Zn ?_
        refine Zn ?_
        refine Zn ?_
        refine Zn ?_
        refine Zf ?_
        refine Zm ?_
        refine Zn ?_
        refine Zn ?_
        refine Zn ?_
        refine Zn ?_
        refine Zf ?_
        refine Zm ?_
        refine Zn ?_
        refine Zn ?_
        refine Zn ?_
        refine Zn ?_
        refine Zf ?_
        refine Za ?_
        refine Zl ?_
        refine VC.keep [0] rfl ?_
        cases hS
        exact Ze
       replace hS := it_f h61 hS
       refine Zn ?_
       refine Zn ?_
       refine Zn ?_
       refine Zf ?_
       refine Zm ?_
       refine Zn ?_
       refine Zn ?_
       refine Zn ?_
       refine Zn ?_
       refine Zf ?_
       refine Zm ?_
       refine Zn ?_
       refine Zn ?_
       refine Zn ?_
       refine Zn ?_
       refine Zf ?_
       refine Zm ?_
       refine Zn ?_
       refine Zn ?_
       refine Zn ?_
       refine Zn ?_
       refine Zf ?_
       refine Za ?_
       refine Zl ?_
       refine VC.keep [0] rfl ?_
       cases hS
       exact Ze
      replace hS := it_f h54 hS
      refine Zn ?_
      refine Zn ?_
      refine Zn ?_
      refine Zn ?_
      refine Zn ?_
      refine Zf ?_
      refine Zm ?_
      refine Zn ?_
      refine Zn ?_
      refine Zn ?_
      refine Zf ?_
      refine Zm ?_
      refine Zn ?_
      refine Zn ?_
      refine Zn ?_
      refine Zn ?_
      refine Zf ?_
      refine Zm ?_
      refine Zn ?_
      refine Zn ?_
      refine Zn ?_
      refine Zn ?_
      refine Zf ?_
      refine Zm ?_
      refine Zn ?_
      refine Zn ?_
      refine Zn ?_
      refine Zn ?_
      refine Zf ?_
      refine Za ?_
      refine Zl ?_
      refine VC.keep [0] rfl ?_
      cases hS
      exact Ze
     replace hS := it_f h49 hS
     refine Zn ?_
     refine Zn ?_
     refine Zn ?_
     refine Zf ?_
     refine Zm ?_
     refine Zn ?_
     refine Zn ?_
     refine Zn ?_
     refine Zn ?_
     refine Zn ?_
     refine Zf ?_
     refine Zm ?_
     refine Zn ?_
     refine Zn ?_
     refine Zn ?_
     refine Zf ?_
     refine Zm ?_
     refine Zn ?_
     refine Zn ?_
     refine Zn ?_
     refine Zn ?_
     refine Zf ?_
     refine Zm ?_
     refine Zn ?_
     refine Zn ?_
     refine Zn ?_
     refine Zn ?_
     refine Zf ?_
     refine Zm ?_
     refine Zn ?_
     refine Zn ?_
     refine Zn ?_
     refine Zn ?_
     refine Zf ?_
     refine Za ?_
     refine Zl ?_
     refine VC.keep [0] rfl ?_
     cases hS
     exact Ze
    replace hS := it_b h44 hS
    refine Zn ?_
    refine Zn ?_
    refine Zn ?_
    refine Zf ?_
    refine Zm ?_
    refine Zn ?_
    refine Zn ?_
    refine Zn ?_
    refine Zf ?_
    refine Zm ?_
    refine Zn ?_
    refine Zn ?_
    refine Zn ?_
    refine Zn ?_
    refine Zn ?_
    refine Zf ?_
    refine Zm ?_
    refine Zn ?_
    refine Zn ?_
    refine Zn ?_
    refine Zf ?_
    refine Zm ?_
    refine Zn ?_
    refine Zn ?_
    refine Zn ?_
    refine Zn ?_
    refine Zf ?_
    refine Zm ?_
    refine Zn ?_
    refine Zn ?_
    refine Zn ?_
    refine Zn ?_
    refine Zf ?_
    refine Zm ?_
    refine Zn ?_
    refine Zn ?_
    refine Zn ?_
    refine Zn ?_
    refine Zf ?_
    refine Za ?_
    refine Zl ?_
    refine VC.keep [0] rfl ?_
    cases hS
    exact Ze
   replace hS := it_f h41 hS
   refine Zn ?_
   refine Zf ?_
   refine Zm ?_
   refine Zn ?_
   refine Zn ?_
   refine Zn ?_
   refine Zf ?_
   refine Zm ?_
   refine Zn ?_
   refine Zn ?_
   refine Zn ?_
   refine Zf ?_
   refine Zm ?_
   refine Zn ?_
   refine Zn ?_
   refine Zn ?_
   refine Zn ?_
   refine Zn ?_
   refine Zf ?_
   refine Zm ?_
   refine Zn ?_
   refine Zn ?_
   refine Zn ?_
   refine Zf ?_
   refine Zm ?_
   refine Zn ?_
   refine Zn ?_
   refine Zn ?_
   refine Zn ?_
   refine Zf ?_
   refine Zm ?_
   refine Zn ?_
   refine Zn ?_
   refine Zn ?_
   refine Zn ?_
   refine Zf ?_
   refine Zm ?_
   refine Zn ?_
   refine Zn ?_
   refine Zn ?_
   refine Zn ?_
   refine Zf ?_
   refine Za ?_
   refine Zl ?_
   refine VC.keep [0] rfl ?_
   cases hS
   exact Ze
  replace hS := it_f h36 hS
  refine Zn ?_
  refine Zn ?_
  refine Zn ?_
  refine Zf ?_
  refine Zm ?_
  refine Zn ?_
  refine Zf ?_
  refine Zm ?_
  refine Zn ?_
  refine Zn ?_
  refine Zn ?_
  refine Zf ?_
  refine Zm ?_
  refine Zn ?_
  refine Zn ?_
  refine Zn ?_
  refine Zf ?_
  refine Zm ?_
  refine Zn ?_
  refine Zn ?_
  refine Zn ?_
  refine Zn ?_
  refine Zn ?_
  refine Zf ?_
  refine Zm ?_
  refine Zn ?_
  refine Zn ?_
  refine Zn ?_
  refine Zf ?_
  refine Zm ?_
  refine Zn ?_
  refine Zn ?_
  refine Zn ?_
  refine Zn ?_
  refine Zf ?_
  refine Zm ?_
  refine Zn ?_
  refine Zn ?_
  refine Zn ?_
  refine Zn ?_
  refine Zf ?_
  refine Zm ?_
  refine Zn ?_
  refine Zn ?_
  refine Zn ?_
  refine Zn ?_
  refine Zf ?_
  refine Za ?_
  refine Zl ?_
  refine VC.keep [0] rfl ?_
  cases hS
  exact Ze
 replace hS := it_f h29 hS
 refine Zn ?_
 refine Zn ?_
 refine Zn ?_
 refine Zn ?_
 refine Zn ?_
 refine Zf ?_
 refine Zm ?_
 refine Zn ?_
 refine Zn ?_
 refine Zn ?_
 refine Zf ?_
 refine Zm ?_
 refine Zn ?_
 refine Zf ?_
 refine Zm ?_
 refine Zn ?_
 refine Zn ?_
 refine Zn ?_
 refine Zf ?_
 refine Zm ?_
 refine Zn ?_
 refine Zn ?_
 refine Zn ?_
 refine Zf ?_
 refine Zm ?_
 refine Zn ?_
 refine Zn ?_
 refine Zn ?_
 refine Zn ?_
 refine Zn ?_
 refine Zf ?_
 refine Zm ?_
 refine Zn ?_
 refine Zn ?_
 refine Zn ?_
 refine Zf ?_
 refine Zm ?_
 refine Zn ?_
 refine Zn ?_
 refine Zn ?_
 refine Zn ?_
 refine Zf ?_
 refine Zm ?_
 refine Zn ?_
 refine Zn ?_
 refine Zn ?_
 refine Zn ?_
 refine Zf ?_
 refine Zm ?_
 refine Zn ?_
 refine Zn ?_
 refine Zn ?_
 refine Zn ?_
 refine Zf ?_
 refine Za ?_
 refine Zl ?_
 refine VC.keep [0] rfl ?_
 cases hS
 exact Ze
theorem rectolaw14_Few_ct (r_0 : Sv FilesFile) {r : Bool} (hS : Sh.rectolaw14_Few r_0.l = some r) :
 Ct Tryz.prog 13 [r_0.val] r_0.ok (Ow.emp) (X := Unit) (fun _ => .bool r) (fun _ => True) (fun _ => Mo.tt) (fun _ => Ow.emp) := by
 refine Ct.of Tryz.func13 rfl (by kernel_rfl) Tryz.ntmps13 (by simp) fun c => ?_
 unfold Sh.rectolaw14_Few at hS
 refine Zq (Zr ?_)
 refine Za ?_
 refine Zl ?_
 refine Zq (Zq (Zr ?_))
 refine Zm ?_
 refine VL.q (q_ln (s := r_0) Tryz.underlying38 rfl) (by decide) ?_
 refine VL.q (q_gtr rfl rfl) (by decide) ?_
 refine Zl ?_
 refine VC.cond_dec rfl (fun h6 => ?_) (fun h6 => ?_)
 ·
  replace hS := it_t h6 hS
  refine Zq (Zr ?_)
  refine Za ?_
  refine Zl ?_
  cases hS
  exact Ze
 replace hS := it_f h6 hS
 refine Zk ?_
 refine Zq (Zq (Zr ?_))
 refine Za ?_
 refine Zl ?_
 refine Zb ?_
 refine VC.iter (S := Int) (fun (i3_1 : Int) => i3_1) (fun (i3_1 : Int) => [(0, r_0.val), (3, i64 i3_1)]) (fun (i3_1 : Int) => Mo.tt) (fun (i3_1 : Int) => Ow.emp) 0 [0, 3] hS rfl ?_
 clear hS
 rintro i3_1 m1 y1 hS hK1
 show VC _ _ _ _ _ [(0, r_0.val), (3, i64 i3_1)] (Mo.and Mo.tt _) (Ow.emp)
 refine Zq (Zq (Zr ?_))
 refine Zm ?_
 refine Zm ?_
 refine VL.q (q_ln (s := r_0) Tryz.underlying38 rfl) (by decide) ?_
 refine VL.q (q_lss rfl rfl) (by decide) ?_
 refine Zl ?_
 refine VC.cond_dec rfl (fun h10 => ?_) (fun h10 => ?_)
 ·
  replace hS := it_t h10 hS
  refine Zk ?_
  refine Zq (Zb ?_)
  refine VC.cutJ (S := Bool) (fun (x28_2 : Bool) => x28_2) (fun (x28_2 : Bool) => [(0, r_0.val), (3, i64 i3_1), (28, .bool x28_2)]) (fun (x28_2 : Bool) => Mo.tt) (fun (x28_2 : Bool) => Ow.emp) hS ?_ ?_
  ·
   clear hS
   intro k3 hS
   refine Zr ?_
   refine Zm ?_
   refine Zm ?_
   obtain ⟨z15_4, nz15_4, hz15_4, hS⟩ := at_s hS
   refine VL.q (q_ixm (s := r_0) Tryz.underlying38 gsz42 rfl rfl nz15_4 (lt_of_get nz15_4 hz15_4)) (by decide) ?_
   refine VL.q (q_field gfa42_0 rfl) (by decide) ?_
   refine VL.q (q_elf (s := r_0) gone9 rfl hz15_4 rfl) (by decide) ?_
   refine VL.q (q_slen Tryz.underlying9 rfl) (by decide) ?_
   refine VL.q (q_gtr rfl rfl) (by decide) ?_
   refine Zm ?_
   refine VL.split_dec 20 rfl (fun h20 => ?_) (fun h20 => ?_)
   ·
    replace hS := it_t h20 hS
    refine Zn ?_
    refine Zn ?_
    refine Zn ?_
    refine Zn ?_
    refine Zn ?_
    refine Zn ?_
    refine Zn ?_
    refine Zt ?_
    refine VL.mt true [0, 3, 28] (fun _ _ h => h) hS rfl
   replace hS := it_f h20 hS
   refine Zg ?_
   refine Zg ?_
   obtain ⟨z23_5, nz23_5, hz23_5, hS⟩ := at_s hS
   refine VL.gy rfl rfl (q_ixm (s := r_0) Tryz.underlying38 gsz42 rfl rfl nz23_5 (lt_of_get nz23_5 hz23_5)) (by decide) ?_
   refine VL.gy rfl rfl (q_field gfa42_2 rfl) (by decide) ?_
   refine VL.gy rfl rfl (q_elf (s := r_0) gone9 rfl hz23_5 rfl) (by decide) ?_
   refine VL.gy rfl rfl (q_slen Tryz.underlying9 rfl) (by decide) ?_
   refine VL.gy rfl rfl (q_gtr rfl rfl) (by decide) ?_
   refine Zf ?_
   refine VL.mt (decide (5000 < (z23_5.data.length : Int))) [0, 3, 28] (fun _ _ h => h) hS rfl
  clear hS
  rintro x28_2 hS
  show VC _ _ _ _ _ [(0, r_0.val), (3, i64 i3_1), (28, .bool x28_2)] (Mo.and Mo.tt _) (Ow.emp)
  refine VC.cond rfl (fun h28 => ?_) (fun h28 => ?_)
  ·
   replace hS := it_t h28 hS
   refine Zq (Zr ?_)
   refine Za ?_
   refine Zl ?_
   replace hS := up2 hS hK1
   cases hS
   exact Ze
  replace hS := it_b h28 hS
  refine Zk ?_
  refine Zr ?_
  refine Zm ?_
  obtain ⟨b12, hS⟩ := gd_s hS
  refine VL.q (q_add rfl rfl b12) (by decide) ?_
  refine Za ?_
  refine VL.rnd (i3_1 + 1) [0, 3] (fun _ _ h => h) (go2 hS hK1) rfl
 replace hS := it_f h10 hS
 replace hS := up2 hS hK1
 refine Zx ?_
 refine Zq (Zr ?_)
 refine Za ?_
 refine Zl ?_
 cases hS
 exact Ze
theorem rectolaw14_Of_ct (r_0 : Sv FilesFile) {r : List Rectoref14File} (hS : Sh.rectolaw14_Of r_0.l = some r) :
 Ct Tryz.prog 18 [r_0.val] r_0.ok (Ow.emp) (X := Sv Rectoref14File) (fun x => x.val) (fun x => r = x.l) (fun x => Mo.tt) (fun x => Sv.own x 45) := by
 refine Ct.of Tryz.func18 rfl (by kernel_rfl) Tryz.ntmps18 (by simp) fun c => ?_
 unfold Sh.rectolaw14_Of at hS
 refine Zq (Zr ?_)
 refine Za ?_
 refine Zl ?_
 refine Zq (Zr ?_)
 refine Za ?_
 refine Zl ?_
 refine Zq (Zq (Zr ?_))
 refine Za ?_
 refine Zl ?_
 refine Zb ?_
 refine VC.nilO (⟨none, 0, []⟩ : Sv Rectoref14File) 45 ⟨rfl, rfl⟩ ?_
 refine VC.iter (S := Sv Rectoref14File × Int) (fun sg => (sg.1.l, sg.2)) (fun sg => [(0, r_0.val), (3, sg.1.val), (4, i64 sg.2)]) (fun sg => Mo.tt) (fun sg => Ow.star (Sv.own sg.1 45) (Ow.emp)) (⟨none, 0, []⟩, 0) [0, 3, 4] hS rfl ?_
 clear hS
 rintro ⟨out3_1, i4_2⟩ m1 y1 hS hK1
 show VC _ _ _ _ _ [(0, r_0.val), (3, out3_1.val), (4, i64 i4_2)] (Mo.and Mo.tt _) (Ow.star (Sv.own out3_1 45) (Ow.emp))
 refine Zq (Zq (Zr ?_))
 refine Zm ?_
 refine Zm ?_
 refine VL.q (q_ln (s := r_0) Tryz.underlying38 rfl) (by decide) ?_
 refine VL.q (q_lss rfl rfl) (by decide) ?_
 refine Zl ?_
 refine VC.cond_dec rfl (fun h8 => ?_) (fun h8 => ?_)
 ·
  replace hS := it_t h8 hS
  refine Zk ?_
  refine Zq (Zb ?_)
  refine VC.draw [(0, true), (1, true), (2, true), (3, true), (4, true), (5, true), (6, true), (7, true), (8, true), (9, true), (10, true), (11, true), (12, true), (13, true), (14, true), (15, true), (16, true), (17, false), (18, false), (19, true)] mixed (by kernel_rfl) (by kernel_rfl) (by kernel_rfl) ?_
  refine VD.q rfl (q_move rfl) (by decide) ?_
  refine VD.q rfl (q_move rfl) (by decide) ?_
  refine VD.q rfl (q_move rfl) (by decide) ?_
  obtain ⟨z14_3, nz14_3, hz14_3, hS⟩ := at_s hS
  refine VD.q rfl (q_ixm (s := r_0) Tryz.underlying38 gsz42 rfl rfl nz14_3 (lt_of_get nz14_3 hz14_3)) (by decide) ?_
  refine VD.q rfl (q_field gfa42_0 rfl) (by decide) ?_
  refine VD.q rfl (q_elf (s := r_0) gone9 rfl hz14_3 rfl) (by decide) ?_
  refine VD.q rfl (q_move rfl) (by decide) ?_
  refine VD.q rfl (q_move rfl) (by decide) ?_
  obtain ⟨z19_4, nz19_4, hz19_4, hS⟩ := at_s hS
  refine VD.q rfl (q_ixm (s := r_0) Tryz.underlying38 gsz42 rfl rfl nz19_4 (lt_of_get nz19_4 hz19_4)) (by decide) ?_
  refine VD.q rfl (q_field gfa42_1 rfl) (by decide) ?_
  refine VD.q rfl (q_elf (s := r_0) gone3 rfl hz19_4 rfl) (by decide) ?_
  refine VD.q rfl (q_move rfl) (by decide) ?_
  refine VD.q rfl (q_move rfl) (by decide) ?_
  obtain ⟨z24_5, nz24_5, hz24_5, hS⟩ := at_s hS
  refine VD.q rfl (q_ixm (s := r_0) Tryz.underlying38 gsz42 rfl rfl nz24_5 (lt_of_get nz24_5 hz24_5)) (by decide) ?_
  refine VD.q rfl (q_field gfa42_2 rfl) (by decide) ?_
  refine VD.q rfl (q_elf (s := r_0) gone9 rfl hz24_5 rfl) (by decide) ?_
  refine VD.q rfl (q_build (vs := [(0, str z14_3.path), (1, i64 z19_4.mode), (2, str z24_5.data)]) (cs := #[str z14_3.path, i64 z19_4.mode, str z24_5.data]) rfl (by kernel_rfl)) (by decide) ?_
  refine VD.one rfl ?_
  refine VL.lit (α := Rectoref14File) (xs := [.tmp 27]) (vs := [.agg #[str z14_3.path, i64 z19_4.mode, str z24_5.data]]) [⟨z14_3.path, z19_4.mode, z24_5.data⟩] Tryz.underlying48 glit45 (by decide) rfl rfl rfl rfl (by decide) (fun _ _ _ _ => trivial) (by decide) (fun s28_6 hs28_6 => ?_) (by decide)
  replace hS := lt_to hs28_6 hS
  refine VL.back (D' := []) (by kernel_rfl) (Pend.nil) ?_
  refine VD.one rfl ?_
  obtain ⟨b29, hS⟩ := gd_s hS
  refine VL.app (s := out3_1) (r := s28_6) Tryz.underlying48 gapp45 (by decide) rfl Fo.out (ap1 b29) (ap2 b29 (by decide)) (by decide) (fun s29_8 hs29_8 => ?_)
  replace hS := lt_to hs29_8 hS
  refine VL.back (D' := []) (by kernel_rfl) (Pend.nil) ?_
  refine VD.q rfl (q_assign rfl) (by decide) ?_
  refine VD.to (fun _ _ h => h) ?_
  refine VC.keep [0, 3, 4] rfl ?_
  refine Zr ?_
  refine Zm ?_
  obtain ⟨b10, hS⟩ := gd_s hS
  refine VL.q (q_add rfl rfl b10) (by decide) ?_
  refine Za ?_
  refine VL.rnd (s29_8, (i4_2 + 1)) [0, 3, 4] (fun _ _ h => h) (go2 hS hK1) rfl
 replace hS := it_f h8 hS
 replace hS := up2 hS hK1
 refine Zx ?_
 refine Zq (Zr ?_)
 refine Zm ?_
 refine Za ?_
 refine Zl ?_
 cases hS
 exact VC.ret (fin1 (.inr rfl) rfl rfl out3_1 rfl rfl (by (try dsimp only); exact InM.out) (by (try dsimp only); exact EntO.out))
theorem rectoref3_At_ct (word_0 : Str) (at_1 : Int) (e_2 : Int) {r : Rectoref3WrongP} (hS : Sh.rectoref3_At word_0 at_1 e_2 = some r) :
 Ct Tryz.prog 70 [str word_0, i64 at_1, i64 e_2] Mo.tt (Ow.emp) (X := Rectoref3Wrong) (fun x => .agg (Dat.enc x).toArray) (fun x => r = x.pl) (fun x => x.m) (fun x => Ow.emp) := by
 refine Ct.of Tryz.func70 rfl (by kernel_rfl) Tryz.ntmps70 (by simp) fun c => ?_
 unfold Sh.rectoref3_At at hS
 refine Zq (Zr ?_)
 refine VL.alloc (cs := [.slice none 0 0, i64 0]) (by kernel_rfl) (by decide) fun b6_1 => ?_
 refine Zl ?_
 refine Zq (Zr ?_)
 refine Zm ?_
 refine Zm ?_
 refine VL.q (q_build (vs := [(0, str word_0), (1, i64 at_1)]) (cs := #[str word_0, i64 at_1]) rfl (by kernel_rfl)) (by decide) ?_
 refine VL.lit (α := Rectoref3Part) (xs := [.tmp 9]) (vs := [.agg #[str word_0, i64 at_1]]) [⟨word_0, at_1⟩] Tryz.underlying52 glit137 (by decide) rfl rfl rfl rfl (by decide) (fun _ _ _ _ => trivial) (by decide) (fun s10_2 hs10_2 => ?_) (by decide)
 replace hS := lt_to hs10_2 hS
 refine Zm ?_
 refine VL.q (q_build (vs := [(0, s10_2.val), (1, i64 e_2)]) (cs := #[s10_2.val, i64 e_2]) rfl (by kernel_rfl)) (by decide) ?_
 refine VL.store (vc := [s10_2.val, i64 e_2]) (cs' := [s10_2.val, i64 e_2]) rfl rfl rfl gsz54 rfl rfl (Nat.le_of_ble_eq_true rfl) rfl ?_
 refine Zl ?_
 cases hS
 exact VC.ret (finG (vs := [.agg #[s10_2.val, i64 e_2]]) (.inr rfl) rfl (RVs.cell gagg54 rfl rfl Rd.blk (RVs.nil)) ⟨s10_2, e_2⟩ rfl rfl (by (try dsimp only); exact InM.out) (fun _ _ => trivial))
theorem rectoref1_Parts_ct (p_0 : Str) {r : List Str} (hS : Sh.rectoref1_Parts p_0 = some r) :
 Ct Tryz.prog 194 [str p_0] Mo.tt (Ow.emp) (X := Sv Str) (fun x => x.val) (fun x => r = x.l) (fun x => Mo.tt) (fun x => Sv.own x 9) := by
 refine Ct.of Tryz.func194 rfl (by kernel_rfl) Tryz.ntmps194 (by simp) fun c => ?_
 unfold Sh.rectoref1_Parts at hS
 refine Zq (Zr ?_)
 refine Za ?_
 refine Zl ?_
 refine Zq (Zq (Zr ?_))
 refine Zm ?_
 refine Zs ?_
 refine Zl ?_
 refine VC.cond_dec rfl (fun h6 => ?_) (fun h6 => ?_)
 ·
  replace hS := it_t h6 hS
  refine Zq (Zr ?_)
  refine Za ?_
  refine Zl ?_
  refine VC.nilO (⟨none, 0, []⟩ : Sv Str) 9 ⟨rfl, rfl⟩ ?_
  cases hS
  exact VC.ret (fin1 (.inr rfl) rfl rfl ⟨none, 0, []⟩ rfl rfl (by (try dsimp only); exact InM.out) (by (try dsimp only); exact EntO.out))
 replace hS := it_f h6 hS
 refine Zk ?_
 refine Zq (Zr ?_)
 refine VL.litO (α := Str) (xs := [.const (str [])]) (vs := [str []]) [[]] Tryz.underlying82 glit9 (by decide) rfl rfl rfl rfl (by decide) (by decide) (fun s7_1 hs7_1 => ?_) (by decide)
 replace hS := lt_to hs7_1 hS
 refine Za ?_
 refine Zl ?_
 refine Zq (Zq (Zr ?_))
 refine Za ?_
 refine Zl ?_
 refine Zb ?_
 refine VC.iter (S := Sv Str × Int) (fun sg => (sg.1.l, sg.2)) (fun sg => [(0, str p_0), (3, sg.1.val), (4, i64 sg.2)]) (fun sg => Mo.tt) (fun sg => Ow.star (Sv.own sg.1 9) (Ow.emp)) (s7_1, 0) [0, 3, 4] hS rfl ?_
 clear hS
 rintro ⟨out3_3, i4_4⟩ m1 y1 hS hK1
 show VC _ _ _ _ _ [(0, str p_0), (3, out3_3.val), (4, i64 i4_4)] (Mo.and Mo.tt _) (Ow.star (Sv.own out3_3 9) (Ow.emp))
 refine Zq (Zq (Zr ?_))
 refine Zm ?_
 refine Zm ?_
 refine VL.q (q_slen Tryz.underlying9 rfl) (by decide) ?_
 refine VL.q (q_lss rfl rfl) (by decide) ?_
 refine Zl ?_
 refine VC.cond_dec rfl (fun h11 => ?_) (fun h11 => ?_)
 ·
  replace hS := it_t h11 hS
  refine Zk ?_
  refine VC.cutJ (S := Sv Str) (fun (out3_5 : Sv Str) => out3_5.l) (fun (out3_5 : Sv Str) => [(0, str p_0), (3, out3_5.val), (4, i64 i4_4)]) (fun (out3_5 : Sv Str) => Mo.tt) (fun (out3_5 : Sv Str) => Ow.star (Sv.own out3_5 9) (Ow.emp)) hS ?_ ?_
  ·
   clear hS
   intro k6 hS
   refine Zb (Zq (Zq (Zr ?_)))
   refine Zm ?_
   refine Zm ?_
   obtain ⟨z16_7, nz16_7, hz16_7, hS⟩ := at_s hS
   refine VL.q (q_sidx Tryz.underlying9 rfl rfl nz16_7 hz16_7) (by decide) ?_
   refine VL.q (q_eql rfl rfl) (by decide) ?_
   refine Zl ?_
   refine VC.keep [0, 3, 4, 17] rfl ?_
   refine VC.cond_dec rfl (fun h17 => ?_) (fun h17 => ?_)
   ·
    replace hS := it_t h17 hS
    refine Zq (Zr ?_)
    refine Zm ?_
    refine VL.lit (α := Str) (xs := [.const (str [])]) (vs := [str []]) [[]] Tryz.underlying82 glit9 (by decide) rfl rfl rfl rfl (by decide) (fun _ _ _ _ => trivial) (by decide) (fun s19_8 hs19_8 => ?_) (by decide)
    replace hS := lt_to hs19_8 hS
    obtain ⟨b20, hS⟩ := gd_s hS
    refine VL.app (s := out3_3) (r := s19_8) Tryz.underlying82 gapp9 (by decide) rfl Fo.out (ap1 b20) (ap2 b20 (by decide)) (by decide) (fun s20_10 hs20_10 => ?_)
    replace hS := lt_to hs20_10 hS
    refine Za ?_
    refine Zl ?_
    refine VC.exit_mt s20_10 [0, 3, 4] (fun _ _ h => h) hS rfl
   replace hS := it_f h17 hS
   refine Zk ?_
   refine VC.draw [(0, true), (1, true), (2, true), (3, true), (4, true), (5, true), (6, true), (7, true), (8, true), (9, true), (10, true), (11, true), (12, true), (13, true), (14, true), (15, true), (16, true), (17, false)] mixed (by kernel_rfl) (by kernel_rfl) (by kernel_rfl) ?_
   refine VD.q rfl (q_move rfl) (by decide) ?_
   refine VD.q rfl (q_move rfl) (by decide) ?_
   refine VD.q rfl (q_ln (s := out3_3) Tryz.underlying82 rfl) (by decide) ?_
   obtain ⟨b24, hS⟩ := gd_s hS
   refine VD.q rfl (q_sub rfl rfl b24) (by decide) ?_
   refine VD.q rfl (q_move rfl) (by decide) ?_
   refine VD.q rfl (q_move rfl) (by decide) ?_
   refine VD.q rfl (q_ln (s := out3_3) Tryz.underlying82 rfl) (by decide) ?_
   obtain ⟨b28, hS⟩ := gd_s hS
   refine VD.q rfl (q_sub rfl rfl b28) (by decide) ?_
   obtain ⟨z29_12, nz29_12, hz29_12, hS⟩ := at_s hS
   refine VD.q rfl (q_ixo (s := out3_3) Tryz.underlying82 gsz9 rfl rfl nz29_12 (lt_of_get nz29_12 hz29_12)) (by decide) ?_
   refine VD.q rfl (q_elo (s := out3_3) 9 gone9 rfl hz29_12 rfl) (by decide) ?_
   refine VD.q rfl (q_move rfl) (by decide) ?_
   refine VD.q rfl (q_move rfl) (by decide) ?_
   refine VD.q rfl (q_move rfl) (by decide) ?_
   obtain ⟨b34, hS⟩ := gd_s hS
   refine VD.q rfl (q_add rfl rfl b34) (by decide) ?_
   obtain ⟨b35, hS⟩ := gd_s hS
   obtain ⟨y35_13, ey35_13, hS⟩ := lt_s hS
   refine VD.q rfl (q_smidE Tryz.underlying9 rfl rfl rfl b35.1 b35.2.1 b35.2.2 ey35_13) (by decide) ?_
   obtain ⟨b36, hS⟩ := gd_s hS
   obtain ⟨y36_14, ey36_14, hS⟩ := lt_s hS
   refine VD.q rfl (q_catE rfl rfl b36 ey36_14) (by decide) ?_
   obtain ⟨z37_15, nz37_15, hz37_15, hS⟩ := at_s hS
   refine VD.q rfl (q_ixo (s := out3_3) Tryz.underlying82 gsz9 rfl rfl nz37_15 (lt_of_get nz37_15 hz37_15)) (by decide) ?_
   refine VD.one rfl ?_
   refine VL.storeE (s := out3_3) (T := 9) (j := 0) (vc := [str y36_14]) (y36_14 : Str) (by decide) rfl rfl hz37_15 rfl gsz9 rfl rfl (Nat.le_of_ble_eq_true rfl) rfl (fun w16 hw16 haw16 hcw16 hvw16 hbw16 how16 => ?_)
   rw [← hvw16]
   replace hS := lt_to hw16 hS
   refine VL.back (D' := []) (by kernel_rfl) (Pend.nil) ?_
   refine VD.mt w16 [0, 3, 4] (fun _ _ h => h) hS rfl
  clear hS
  rintro out3_5 hS
  show VC _ _ _ _ _ [(0, str p_0), (3, out3_5.val), (4, i64 i4_4)] (Mo.and Mo.tt _) (Ow.star (Sv.own out3_5 9) (Ow.emp))
  refine Zr ?_
  refine Zm ?_
  obtain ⟨b13, hS⟩ := gd_s hS
  refine VL.q (q_add rfl rfl b13) (by decide) ?_
  refine Za ?_
  refine VL.rnd (out3_5, (i4_4 + 1)) [0, 3, 4] (fun _ _ h => h) (go2 hS hK1) rfl
 replace hS := it_f h11 hS
 replace hS := up2 hS hK1
 refine Zx ?_
 refine Zq (Zr ?_)
 refine Zm ?_
 refine Za ?_
 refine Zl ?_
 cases hS
 exact VC.ret (fin1 (.inr rfl) rfl rfl out3_3 rfl rfl (by (try dsimp only); exact InM.out) (by (try dsimp only); exact EntO.out))
theorem rectoref1_good_ct (c_0 : Int) {r : Bool} (hS : Sh.rectoref1_good c_0 = some r) :
 Ct Tryz.prog 195 [.int .u8 c_0] Mo.tt (Ow.emp) (X := Unit) (fun _ => .bool r) (fun _ => True) (fun _ => Mo.tt) (fun _ => Ow.emp) := by
 refine Ct.of Tryz.func195 rfl (by kernel_rfl) Tryz.ntmps195 (by simp) fun c => ?_
 unfold Sh.rectoref1_good at hS
 refine Zq (Zr ?_)
 refine Za ?_
 refine Zl ?_
 refine Zq (Zr ?_)
 refine Zm ?_
 refine VL.q (q_geq rfl rfl) (by decide) ?_
 refine Zm ?_
 refine VL.split_dec 5 rfl (fun h5 => ?_) (fun h5 => ?_)
 ·
  replace hS := it_t h5 hS
  refine Zg ?_
  refine VL.gy rfl rfl (q_leq rfl rfl) (by decide) ?_
  refine Zt ?_
  refine Zm ?_
  refine VL.split_dec 9 rfl (fun h9 => ?_) (fun h9 => ?_)
  ·
   replace hS := it_t h9 hS
   refine Zn ?_
   refine Zn ?_
   refine Zn ?_
   refine VL.gu rfl rfl (by decide) ?_
   refine VL.gu rfl rfl (by decide) ?_
   refine Zn ?_
   refine Zt ?_
   refine Zm ?_
   refine Zn ?_
   refine Zn ?_
   refine Zt ?_
   refine Zm ?_
   refine Zn ?_
   refine Zn ?_
   refine Zt ?_
   refine Zm ?_
   refine Zn ?_
   refine Zn ?_
   refine Zt ?_
   refine Za ?_
   refine Zl ?_
   refine VC.keep [2] rfl ?_
   cases hS
   exact Ze
  replace hS := it_f h9 hS
  refine Zg ?_
  refine VL.gy rfl rfl (q_geq rfl rfl) (by decide) ?_
  refine Zg ?_
  refine VL.split_dec 12 rfl (fun h12 => ?_) (fun h12 => ?_)
  ·
   replace hS := it_t h12 hS
   refine Zg ?_
   refine VL.gy rfl rfl (q_leq rfl rfl) (by decide) ?_
   refine VL.gy rfl rfl (q_pick_t rfl rfl) (by decide) ?_
   refine Zf ?_
   refine Zm ?_
   refine VL.split_dec 17 rfl (fun h17 => ?_) (fun h17 => ?_)
   ·
    replace hS := it_t h17 hS
    refine Zn ?_
    refine Zn ?_
    refine Zt ?_
    refine Zm ?_
    refine Zn ?_
    refine Zn ?_
    refine Zt ?_
    refine Zm ?_
    refine Zn ?_
    refine Zn ?_
    refine Zt ?_
    refine Za ?_
    refine Zl ?_
    refine VC.keep [2] rfl ?_
    cases hS
    exact Ze
   replace hS := it_f h17 hS
   refine Zg ?_
   refine VL.gy rfl rfl (q_eql rfl rfl) (by decide) ?_
   refine Zf ?_
   refine Zm ?_
   refine VL.split_dec 21 rfl (fun h21 => ?_) (fun h21 => ?_)
   ·
    replace hS := it_t h21 hS
    refine Zn ?_
    refine Zn ?_
    refine Zt ?_
    refine Zm ?_
    refine Zn ?_
    refine Zn ?_
    refine Zt ?_
    refine Za ?_
    refine Zl ?_
    refine VC.keep [2] rfl ?_
    cases hS
    exact Ze
   replace hS := it_f h21 hS
   refine Zg ?_
   refine VL.gy rfl rfl (q_eql rfl rfl) (by decide) ?_
   refine Zf ?_
   refine Zm ?_
   refine VL.split_dec 25 rfl (fun h25 => ?_) (fun h25 => ?_)
   ·
    replace hS := it_t h25 hS
    refine Zn ?_
    refine Zn ?_
    refine Zt ?_
    refine Za ?_
    refine Zl ?_
    refine VC.keep [2] rfl ?_
    cases hS
    exact Ze
   replace hS := it_f h25 hS
   refine Zg ?_
   refine VL.gy rfl rfl (q_eql rfl rfl) (by decide) ?_
   refine Zf ?_
   refine Za ?_
   refine Zl ?_
   refine VC.keep [2] rfl ?_
   cases hS
   exact Ze
  replace hS := it_f h12 hS
  refine Zn ?_
  refine Zn ?_
  refine VL.gy rfl rfl (q_pick_f rfl rfl) (by decide) ?_
  refine Zf ?_
  refine Zm ?_
  refine Zg ?_
  refine VL.gy rfl rfl (q_eql rfl rfl) (by decide) ?_
  refine Zf ?_
  refine Zm ?_
  refine VL.split_dec 21 rfl (fun h21 => ?_) (fun h21 => ?_)
  ·
   replace hS := it_t h21 hS
   refine Zn ?_
   refine Zn ?_
   refine Zt ?_
   refine Zm ?_
   refine Zn ?_
   refine Zn ?_
   refine Zt ?_
   refine Za ?_
   refine Zl ?_
   refine VC.keep [2] rfl ?_
   cases hS
   exact Ze
  replace hS := it_f h21 hS
  refine Zg ?_
  refine VL.gy rfl rfl (q_eql rfl rfl) (by decide) ?_
  refine Zf ?_
  refine Zm ?_
  refine VL.split_dec 25 rfl (fun h25 => ?_) (fun h25 => ?_)
  ·
   replace hS := it_t h25 hS
   refine Zn ?_
   refine Zn ?_
   refine Zt ?_
   refine Za ?_
   refine Zl ?_
   refine VC.keep [2] rfl ?_
   cases hS
   exact Ze
  replace hS := it_f h25 hS
  refine Zg ?_
  refine VL.gy rfl rfl (q_eql rfl rfl) (by decide) ?_
  refine Zf ?_
  refine Za ?_
  refine Zl ?_
  refine VC.keep [2] rfl ?_
  cases hS
  exact Ze
 replace hS := it_f h5 hS
 refine Zn ?_
 refine Zn ?_
 refine Zf ?_
 refine Zm ?_
 refine Zg ?_
 refine VL.gy rfl rfl (q_geq rfl rfl) (by decide) ?_
 refine Zg ?_
 refine VL.split_dec 12 rfl (fun h12 => ?_) (fun h12 => ?_)
 ·
  replace hS := it_t h12 hS
  refine Zg ?_
  refine VL.gy rfl rfl (q_leq rfl rfl) (by decide) ?_
  refine VL.gy rfl rfl (q_pick_t rfl rfl) (by decide) ?_
  refine Zf ?_
  refine Zm ?_
  refine VL.split_dec 17 rfl (fun h17 => ?_) (fun h17 => ?_)
  ·
   replace hS := it_t h17 hS
   refine Zn ?_
   refine Zn ?_
   refine Zt ?_
   refine Zm ?_
   refine Zn ?_
   refine Zn ?_
   refine Zt ?_
   refine Zm ?_
   refine Zn ?_
   refine Zn ?_
   refine Zt ?_
   refine Za ?_
   refine Zl ?_
   refine VC.keep [2] rfl ?_
   cases hS
   exact Ze
  replace hS := it_f h17 hS
  refine Zg ?_
  refine VL.gy rfl rfl (q_eql rfl rfl) (by decide) ?_
  refine Zf ?_
  refine Zm ?_
  refine VL.split_dec 21 rfl (fun h21 => ?_) (fun h21 => ?_)
  ·
   replace hS := it_t h21 hS
   refine Zn ?_
   refine Zn ?_
   refine Zt ?_
   refine Zm ?_
   refine Zn ?_
   refine Zn ?_
   refine Zt ?_
   refine Za ?_
   refine Zl ?_
   refine VC.keep [2] rfl ?_
   cases hS
   exact Ze
  replace hS := it_f h21 hS
  refine Zg ?_
  refine VL.gy rfl rfl (q_eql rfl rfl) (by decide) ?_
  refine Zf ?_
  refine Zm ?_
  refine VL.split_dec 25 rfl (fun h25 => ?_) (fun h25 => ?_)
  ·
   replace hS := it_t h25 hS
   refine Zn ?_
   refine Zn ?_
   refine Zt ?_
   refine Za ?_
   refine Zl ?_
   refine VC.keep [2] rfl ?_
   cases hS
   exact Ze
  replace hS := it_f h25 hS
  refine Zg ?_
  refine VL.gy rfl rfl (q_eql rfl rfl) (by decide) ?_
  refine Zf ?_
  refine Za ?_
  refine Zl ?_
  refine VC.keep [2] rfl ?_
  cases hS
  exact Ze
 replace hS := it_f h12 hS
 refine Zn ?_
 refine Zn ?_
 refine VL.gy rfl rfl (q_pick_f rfl rfl) (by decide) ?_
 refine Zf ?_
 refine Zm ?_
 refine Zg ?_
 refine VL.gy rfl rfl (q_eql rfl rfl) (by decide) ?_
 refine Zf ?_
 refine Zm ?_
 refine VL.split_dec 21 rfl (fun h21 => ?_) (fun h21 => ?_)
 ·
  replace hS := it_t h21 hS
  refine Zn ?_
  refine Zn ?_
  refine Zt ?_
  refine Zm ?_
  refine Zn ?_
  refine Zn ?_
  refine Zt ?_
  refine Za ?_
  refine Zl ?_
  refine VC.keep [2] rfl ?_
  cases hS
  exact Ze
 replace hS := it_f h21 hS
 refine Zg ?_
 refine VL.gy rfl rfl (q_eql rfl rfl) (by decide) ?_
 refine Zf ?_
 refine Zm ?_
 refine VL.split_dec 25 rfl (fun h25 => ?_) (fun h25 => ?_)
 ·
  replace hS := it_t h25 hS
  refine Zn ?_
  refine Zn ?_
  refine Zt ?_
  refine Za ?_
  refine Zl ?_
  refine VC.keep [2] rfl ?_
  cases hS
  exact Ze
 replace hS := it_f h25 hS
 refine Zg ?_
 refine VL.gy rfl rfl (q_eql rfl rfl) (by decide) ?_
 refine Zf ?_
 refine Za ?_
 refine Zl ?_
 refine VC.keep [2] rfl ?_
 cases hS
 exact Ze
theorem rectoref1_Check_ct (p_0 : Str) {r : Int} (hS : Sh.rectoref1_Check p_0 = some r) :
 Ct Tryz.prog 141 [str p_0] Mo.tt (Ow.emp) (X := Unit) (fun _ => i64 r) (fun _ => True) (fun _ => Mo.tt) (fun _ => Ow.emp) := by
 refine Ct.of Tryz.func141 rfl (by kernel_rfl) Tryz.ntmps141 (by simp) fun c => ?_
 unfold Sh.rectoref1_Check at hS
 refine Zq (Zr ?_)
 refine Za ?_
 refine Zl ?_
 refine Zq (Zq (Zr ?_))
 refine Zm ?_
 refine VL.q (q_slen Tryz.underlying9 rfl) (by decide) ?_
 refine VL.q (q_gtr rfl rfl) (by decide) ?_
 refine Zl ?_
 refine VC.cond_dec rfl (fun h8 => ?_) (fun h8 => ?_)
 ·
  replace hS := it_t h8 hS
  refine Zq (Zr ?_)
  refine Za ?_
  refine Zl ?_
  cases hS
  exact Ze
 replace hS := it_f h8 hS
 refine Zk ?_
 refine Zq (Zr ?_)
 refine Zm ?_
 obtain ⟨y10_1, ey10_1, hS⟩ := bd_s hS
 refine VL.callO (rectoref1_Parts_ct p_0 ey10_1) rfl (by decide) ?_
 rintro q10_1_0 rfl
 try dsimp only
 refine Za ?_
 refine Zl ?_
 refine Zq (Zq (Zr ?_))
 refine Zm ?_
 refine VL.q (q_ln (s := q10_1_0) Tryz.underlying82 rfl) (by decide) ?_
 refine VL.q (q_eql rfl rfl) (by decide) ?_
 refine Zl ?_
 refine VC.keep [3, 13] rfl ?_
 refine VC.cond_dec rfl (fun h13 => ?_) (fun h13 => ?_)
 ·
  replace hS := it_t h13 hS
  refine Zq (Zr ?_)
  refine Za ?_
  refine Zl ?_
  cases hS
  exact Ze
 replace hS := it_f h13 hS
 refine Zk ?_
 refine Zq (Zq (Zr ?_))
 refine Za ?_
 refine Zl ?_
 refine Zb ?_
 refine VC.iter (S := Int) (fun (i4_2 : Int) => i4_2) (fun (i4_2 : Int) => [(3, q10_1_0.val), (4, i64 i4_2)]) (fun (i4_2 : Int) => Mo.tt) (fun (i4_2 : Int) => Ow.star (Sv.own q10_1_0 9) (Ow.emp)) 0 [3, 4] hS rfl ?_
 clear hS
 rintro i4_2 m1 y1 hS hK1
 show VC _ _ _ _ _ [(3, q10_1_0.val), (4, i64 i4_2)] (Mo.and Mo.tt _) (Ow.star (Sv.own q10_1_0 9) (Ow.emp))
 refine Zq (Zq (Zr ?_))
 refine Zm ?_
 refine Zm ?_
 refine VL.q (q_ln (s := q10_1_0) Tryz.underlying82 rfl) (by decide) ?_
 refine VL.q (q_lss rfl rfl) (by decide) ?_
 refine Zl ?_
 refine VC.cond_dec rfl (fun h17 => ?_) (fun h17 => ?_)
 ·
  replace hS := it_t h17 hS
  refine Zk ?_
  refine VC.cutJ (S := Unit) (fun (_ : Unit) => ()) (fun (_ : Unit) => [(3, q10_1_0.val), (4, i64 i4_2)]) (fun (_ : Unit) => Mo.tt) (fun (_ : Unit) => Ow.star (Sv.own q10_1_0 9) (Ow.emp)) hS ?_ ?_
  ·
   clear hS
   intro k3 hS
   refine Zb (Zq ?_)
   refine VC.cutJ (S := Bool) (fun (x38_4 : Bool) => x38_4) (fun (x38_4 : Bool) => [(3, q10_1_0.val), (4, i64 i4_2), (38, .bool x38_4)]) (fun (x38_4 : Bool) => Mo.tt) (fun (x38_4 : Bool) => Ow.star (Sv.own q10_1_0 9) (Ow.emp)) hS ?_ ?_
   ·
    clear hS
    intro k5 hS
    refine Zr ?_
    refine Zm ?_
    refine Zm ?_
    obtain ⟨z22_6, nz22_6, hz22_6, hS⟩ := at_s hS
    refine VL.q (q_ixo (s := q10_1_0) Tryz.underlying82 gsz9 rfl rfl nz22_6 (lt_of_get nz22_6 hz22_6)) (by decide) ?_
    refine VL.q (q_elo (s := q10_1_0) 9 gone9 rfl hz22_6 rfl) (by decide) ?_
    refine Zs ?_
    refine Zm ?_
    refine VL.split_dec 25 rfl (fun h25 => ?_) (fun h25 => ?_)
    ·
     replace hS := it_t h25 hS
     refine Zn ?_
     refine Zn ?_
     refine Zn ?_
     refine Zn ?_
     refine Zn ?_
     refine Zt ?_
     refine Zm ?_
     refine Zn ?_
     refine Zn ?_
     refine Zn ?_
     refine Zn ?_
     refine Zn ?_
     refine Zt ?_
     refine VL.mt true [3, 4, 38] (fun _ _ h => h) hS rfl
    replace hS := it_f h25 hS
    refine Zg ?_
    refine Zg ?_
    obtain ⟨z28_7, nz28_7, hz28_7, hS⟩ := at_s hS
    refine VL.gy rfl rfl (q_ixo (s := q10_1_0) Tryz.underlying82 gsz9 rfl rfl nz28_7 (lt_of_get nz28_7 hz28_7)) (by decide) ?_
    refine VL.gy rfl rfl (q_elo (s := q10_1_0) 9 gone9 rfl hz28_7 rfl) (by decide) ?_
    refine VL.gy rfl rfl (q_seq rfl rfl) (by decide) ?_
    refine Zf ?_
    refine Zm ?_
    refine VL.split_dec 32 rfl (fun h32 => ?_) (fun h32 => ?_)
    ·
     replace hS := it_t h32 hS
     refine Zn ?_
     refine Zn ?_
     refine Zn ?_
     refine Zn ?_
     refine Zn ?_
     refine Zt ?_
     refine VL.mt true [3, 4, 38] (fun _ _ h => h) hS rfl
    replace hS := it_f h32 hS
    refine Zg ?_
    refine Zg ?_
    obtain ⟨z35_8, nz35_8, hz35_8, hS⟩ := at_s hS
    refine VL.gy rfl rfl (q_ixo (s := q10_1_0) Tryz.underlying82 gsz9 rfl rfl nz35_8 (lt_of_get nz35_8 hz35_8)) (by decide) ?_
    refine VL.gy rfl rfl (q_elo (s := q10_1_0) 9 gone9 rfl hz35_8 rfl) (by decide) ?_
    refine VL.gy rfl rfl (q_seq rfl rfl) (by decide) ?_
    refine Zf ?_
    refine VL.mt (decide (z35_8 = [46, 46])) [3, 4, 38] (fun _ _ h => h) hS rfl
   clear hS
   rintro x38_4 hS
   show VC _ _ _ _ _ [(3, q10_1_0.val), (4, i64 i4_2), (38, .bool x38_4)] (Mo.and Mo.tt _) (Ow.star (Sv.own q10_1_0 9) (Ow.emp))
   refine VC.cond rfl (fun h38 => ?_) (fun h38 => ?_)
   ·
    replace hS := it_t h38 hS
    refine Zq (Zr ?_)
    refine Za ?_
    refine Zl ?_
    replace hS := up2 hS hK1
    cases hS
    exact Ze
   replace hS := it_b h38 hS
   refine Zk ?_
   refine Zq (Zr ?_)
   refine Za ?_
   refine Zl ?_
   refine Zb ?_
   refine VC.iter (S := Int) (fun (k5_9 : Int) => k5_9) (fun (k5_9 : Int) => [(3, q10_1_0.val), (4, i64 i4_2), (5, i64 k5_9)]) (fun (k5_9 : Int) => Mo.tt) (fun (k5_9 : Int) => Ow.star (Sv.own q10_1_0 9) (Ow.emp)) 0 [3, 4, 5] hS rfl ?_
   clear hS
   rintro k5_9 m2 y2 hS hK2
   show VC _ _ _ _ _ [(3, q10_1_0.val), (4, i64 i4_2), (5, i64 k5_9)] (Mo.and Mo.tt _) (Ow.star (Sv.own q10_1_0 9) (Ow.emp))
   refine Zq (Zq (Zr ?_))
   refine Zm ?_
   refine Zm ?_
   refine Zm ?_
   obtain ⟨z42_10, nz42_10, hz42_10, hS⟩ := at_s hS
   refine VL.q (q_ixo (s := q10_1_0) Tryz.underlying82 gsz9 rfl rfl nz42_10 (lt_of_get nz42_10 hz42_10)) (by decide) ?_
   refine VL.q (q_elo (s := q10_1_0) 9 gone9 rfl hz42_10 rfl) (by decide) ?_
   refine VL.q (q_slen Tryz.underlying9 rfl) (by decide) ?_
   refine VL.q (q_lss rfl rfl) (by decide) ?_
   refine Zl ?_
   refine VC.cond_dec rfl (fun h45 => ?_) (fun h45 => ?_)
   ·
    replace hS := it_t h45 hS
    refine Zk ?_
    refine Zq (Zb (Zq (Zr ?_)))
    refine Zm ?_
    refine Zm ?_
    obtain ⟨z50_11, nz50_11, hz50_11, hS⟩ := at_s hS
    refine VL.q (q_ixo (s := q10_1_0) Tryz.underlying82 gsz9 rfl rfl nz50_11 (lt_of_get nz50_11 hz50_11)) (by decide) ?_
    refine VL.q (q_elo (s := q10_1_0) 9 gone9 rfl hz50_11 rfl) (by decide) ?_
    refine Zm ?_
    obtain ⟨z53_12, nz53_12, hz53_12, hS⟩ := at_s hS
    refine VL.q (q_sidx Tryz.underlying9 rfl rfl nz53_12 hz53_12) (by decide) ?_
    obtain ⟨y54_13, ey54_13, hS⟩ := bd_s hS
    refine VL.q (q_call (rectoref1_good_ct (z53_12.toNat : Int) ey54_13) rfl (fun _ _ => rfl)) (by decide) ?_
    refine VL.q (q_not rfl) (by decide) ?_
    refine Zl ?_
    refine VC.keep [3, 4, 5, 55] rfl ?_
    refine VC.cond rfl (fun h55 => ?_) (fun h55 => ?_)
    ·
     replace hS := it_t h55 hS
     refine Zq (Zr ?_)
     refine Za ?_
     refine Zl ?_
     replace hS := up2 hS hK2
     replace hS := up2 hS hK1
     cases hS
     exact Ze
    replace hS := it_b h55 hS
    refine Zk ?_
    refine Zr ?_
    refine Zm ?_
    obtain ⟨b47, hS⟩ := gd_s hS
    refine VL.q (q_add rfl rfl b47) (by decide) ?_
    refine Za ?_
    refine VL.rnd (k5_9 + 1) [3, 4, 5] (fun _ _ h => h) (go2 hS hK2) rfl
   replace hS := it_f h45 hS
   replace hS := up2 hS hK2
   refine VC.exit_mt () [3, 4] (fun _ _ h => h) hS rfl
  clear hS
  rintro _ hS
  show VC _ _ _ _ _ [(3, q10_1_0.val), (4, i64 i4_2)] (Mo.and Mo.tt _) (Ow.star (Sv.own q10_1_0 9) (Ow.emp))
  refine Zr ?_
  refine Zm ?_
  obtain ⟨b19, hS⟩ := gd_s hS
  refine VL.q (q_add rfl rfl b19) (by decide) ?_
  refine Za ?_
  refine VL.rnd (i4_2 + 1) [3, 4] (fun _ _ h => h) (go2 hS hK1) rfl
 replace hS := it_f h17 hS
 replace hS := up2 hS hK1
 refine Zx ?_
 refine Zq (Zr ?_)
 refine Za ?_
 refine Zl ?_
 cases hS
 exact Ze
theorem rectoref14_Mode_ct (m_0 : Int) {r : Bool} (hS : Sh.rectoref14_Mode m_0 = some r) :
 Ct Tryz.prog 142 [i64 m_0] Mo.tt (Ow.emp) (X := Unit) (fun _ => .bool r) (fun _ => True) (fun _ => Mo.tt) (fun _ => Ow.emp) := by
 refine Ct.of Tryz.func142 rfl (by kernel_rfl) Tryz.ntmps142 (by simp) fun c => ?_
 unfold Sh.rectoref14_Mode at hS
 refine Zq (Zr ?_)
 refine Za ?_
 refine Zl ?_
 refine Zq (Zr ?_)
 refine Zm ?_
 refine VL.q (q_eql rfl rfl) (by decide) ?_
 refine Zm ?_
 refine VL.split_dec 5 rfl (fun h5 => ?_) (fun h5 => ?_)
 ·
  replace hS := it_t h5 hS
  refine Zn ?_
  refine Zn ?_
  refine Zt ?_
  refine Za ?_
  refine Zl ?_
  cases hS
  exact Ze
 replace hS := it_f h5 hS
 refine Zg ?_
 refine VL.gy rfl rfl (q_eql rfl rfl) (by decide) ?_
 refine Zf ?_
 refine Za ?_
 refine Zl ?_
 cases hS
 exact Ze
theorem rectoref14_Cause_ct (f_0 : Rectoref14File) {r : Int} (hS : Sh.rectoref14_Cause f_0 = some r) :
 Ct Tryz.prog 71 [.agg #[str f_0.path, i64 f_0.mode, str f_0.data]] Mo.tt (Ow.emp) (X := Unit) (fun _ => i64 r) (fun _ => True) (fun _ => Mo.tt) (fun _ => Ow.emp) := by
 refine Ct.of Tryz.func71 rfl (by kernel_rfl) Tryz.ntmps71 (by simp) fun c => ?_
 unfold Sh.rectoref14_Cause at hS
 refine Zq (Zr ?_)
 refine VL.box (cs := [str f_0.path, i64 f_0.mode, str f_0.data]) rfl rfl (by decide) fun b1_1 => ?_
 refine Za ?_
 refine Zl ?_
 refine Zq (Zr ?_)
 refine VL.q (q_field gfa45_0 rfl) (by decide) ?_
 refine VL.q (q_fe gone9 rfl rfl) (by decide) ?_
 obtain ⟨y6_2, ey6_2, hS⟩ := bd_s hS
 refine VL.q (q_call (rectoref1_Check_ct f_0.path ey6_2) rfl (fun _ _ => rfl)) (by decide) ?_
 refine Za ?_
 refine Zl ?_
 refine Zq (Zb (Zq (Zr ?_)))
 refine Zm ?_
 refine VL.q (q_neq rfl rfl) (by decide) ?_
 refine Za ?_
 refine Zl ?_
 refine VC.cond_ndec rfl (fun h7 => ?_) (fun h7 => ?_)
 ·
  replace hS := it_f h7 hS
  refine Zq (Zr ?_)
  refine Zm ?_
  refine Za ?_
  refine Zl ?_
  refine VC.keep [2] rfl ?_
  cases hS
  exact Ze
 replace hS := it_t h7 hS
 refine Zq (Zr ?_)
 refine VL.q (q_field gfa45_1 rfl) (by decide) ?_
 refine VL.q (q_fe gone3 rfl rfl) (by decide) ?_
 obtain ⟨y14_3, ey14_3, hS⟩ := bd_s hS
 refine VL.q (q_call (rectoref14_Mode_ct f_0.mode ey14_3) rfl (fun _ _ => rfl)) (by decide) ?_
 refine VL.q (q_not rfl) (by decide) ?_
 refine Za ?_
 refine Zl ?_
 refine VC.keep [1, 11] rfl ?_
 refine VC.cond rfl (fun h11 => ?_) (fun h11 => ?_)
 ·
  replace hS := it_t h11 hS
  refine Zq (Zr ?_)
  refine Za ?_
  refine Zl ?_
  cases hS
  exact Ze
 replace hS := it_b h11 hS
 refine Zq (Zr ?_)
 refine VL.q (q_field gfa45_2 rfl) (by decide) ?_
 refine VL.q (q_fe gone9 rfl rfl) (by decide) ?_
 refine VL.q (q_slen Tryz.underlying9 rfl) (by decide) ?_
 refine VL.q (q_gtr rfl rfl) (by decide) ?_
 refine Za ?_
 refine Zl ?_
 refine VC.cond_dec rfl (fun h16 => ?_) (fun h16 => ?_)
 ·
  replace hS := it_t h16 hS
  refine Zq (Zr ?_)
  refine Za ?_
  refine Zl ?_
  cases hS
  exact Ze
 replace hS := it_f h16 hS
 refine Zk ?_
 refine Zq (Zr ?_)
 refine Za ?_
 refine Zl ?_
 cases hS
 exact Ze
theorem rectoref1_Under_ct (p_0 : Str) (dir_1 : Str) {r : Bool} (hS : Sh.rectoref1_Under p_0 dir_1 = some r) :
 Ct Tryz.prog 143 [str p_0, str dir_1] Mo.tt (Ow.emp) (X := Unit) (fun _ => .bool r) (fun _ => True) (fun _ => Mo.tt) (fun _ => Ow.emp) := by
 refine Ct.of Tryz.func143 rfl (by kernel_rfl) Tryz.ntmps143 (by simp) fun c => ?_
 unfold Sh.rectoref1_Under at hS
 refine Zq (Zr ?_)
 refine Za ?_
 refine Zl ?_
 refine Zq (Zq (Zr ?_))
 refine Zm ?_
 refine Zs ?_
 refine Zl ?_
 refine VC.cond_dec rfl (fun h6 => ?_) (fun h6 => ?_)
 ·
  replace hS := it_t h6 hS
  refine Zq (Zr ?_)
  refine Zm ?_
  refine VL.q (q_sne rfl rfl) (by decide) ?_
  refine Za ?_
  refine Zl ?_
  cases hS
  exact Ze
 replace hS := it_f h6 hS
 refine Zk ?_
 refine Zq (Zr ?_)
 refine Zm ?_
 refine VL.q (q_slen Tryz.underlying9 rfl) (by decide) ?_
 refine Zm ?_
 refine VL.q (q_slen Tryz.underlying9 rfl) (by decide) ?_
 obtain ⟨b13, hS⟩ := gd_s hS
 refine VL.q (q_add rfl rfl b13) (by decide) ?_
 refine VL.q (q_gtr rfl rfl) (by decide) ?_
 refine Zm ?_
 refine VL.split_dec 15 rfl (fun h15 => ?_) (fun h15 => ?_)
 ·
  replace hS := it_t h15 hS
  refine Zg ?_
  refine Zg ?_
  refine VL.gy rfl rfl (q_slen Tryz.underlying9 rfl) (by decide) ?_
  obtain ⟨b19, hS⟩ := gd_s hS
  obtain ⟨y19_1, ey19_1, hS⟩ := lt_s hS
  refine VL.gy rfl rfl (q_stoE Tryz.underlying9 rfl rfl b19.1 b19.2 ey19_1) (by decide) ?_
  refine Zg ?_
  refine VL.gy rfl rfl (q_seq rfl rfl) (by decide) ?_
  refine Zt ?_
  refine Zm ?_
  refine VL.split_dec 23 rfl (fun h23 => ?_) (fun h23 => ?_)
  ·
   replace hS := it_t h23 hS
   refine Zg ?_
   refine Zg ?_
   refine VL.gy rfl rfl (q_slen Tryz.underlying9 rfl) (by decide) ?_
   obtain ⟨z27_2, nz27_2, hz27_2, hS⟩ := at_s hS
   refine VL.gy rfl rfl (q_sidx Tryz.underlying9 rfl rfl nz27_2 hz27_2) (by decide) ?_
   refine VL.gy rfl rfl (q_eql rfl rfl) (by decide) ?_
   refine Zt ?_
   refine Za ?_
   refine Zl ?_
   refine VC.keep [4] rfl ?_
   cases hS
   exact Ze
  replace hS := it_f h23 hS
  refine Zn ?_
  refine Zn ?_
  refine Zn ?_
  refine Zn ?_
  refine Zn ?_
  refine Zf ?_
  refine Za ?_
  refine Zl ?_
  refine VC.keep [4] rfl ?_
  cases hS
  exact Ze
 replace hS := it_f h15 hS
 refine Zn ?_
 refine Zn ?_
 refine Zn ?_
 refine Zn ?_
 refine Zn ?_
 refine Zn ?_
 refine Zf ?_
 refine Zm ?_
 refine Zn ?_
 refine Zn ?_
 refine Zn ?_
 refine Zn ?_
 refine Zn ?_
 refine Zf ?_
 refine Za ?_
 refine Zl ?_
 refine VC.keep [4] rfl ?_
 cases hS
 exact Ze
theorem rectoref1_Clash_ct (a_0 : Str) (b_1 : Str) {r : Bool} (hS : Sh.rectoref1_Clash a_0 b_1 = some r) :
 Ct Tryz.prog 72 [str a_0, str b_1] Mo.tt (Ow.emp) (X := Unit) (fun _ => .bool r) (fun _ => True) (fun _ => Mo.tt) (fun _ => Ow.emp) := by
 refine Ct.of Tryz.func72 rfl (by kernel_rfl) Tryz.ntmps72 (by simp) fun c => ?_
 unfold Sh.rectoref1_Clash at hS
 refine Zq (Zr ?_)
 refine Za ?_
 refine Zl ?_
 refine Zq (Zr ?_)
 refine Zm ?_
 refine VL.q (q_sne rfl rfl) (by decide) ?_
 refine Zm ?_
 refine VL.split_ndec 7 rfl (fun h7 => ?_) (fun h7 => ?_)
 ·
  replace hS := it_f h7 hS
  refine Zg ?_
  refine VL.gy rfl rfl (q_sne rfl rfl) (by decide) ?_
  refine Zt ?_
  refine Zm ?_
  refine VL.split_ndec 11 rfl (fun h11 => ?_) (fun h11 => ?_)
  ·
   replace hS := it_f h11 hS
   refine Zg ?_
   refine Zg ?_
   obtain ⟨y14_1, ey14_1, hS⟩ := bd_s hS
   refine VL.gy rfl rfl (q_call (rectoref1_Under_ct a_0 b_1 ey14_1) rfl (fun _ _ => rfl)) (by decide) ?_
   refine Zg ?_
   refine VL.split 15 rfl (fun h15 => ?_) (fun h15 => ?_)
   ·
    replace hS := it_t h15 hS
    refine Zn ?_
    refine Zn ?_
    refine Zn ?_
    refine VL.gy rfl rfl (q_pick_t rfl rfl) (by decide) ?_
    refine Zt ?_
    refine Za ?_
    refine Zl ?_
    refine VC.keep [4] rfl ?_
    cases hS
    exact Ze
   replace hS := it_b h15 hS
   refine Zg ?_
   refine Zg ?_
   obtain ⟨y18_2, ey18_2, hS⟩ := bd_s hS
   refine VL.gy rfl rfl (q_call (rectoref1_Under_ct b_1 a_0 ey18_2) rfl (fun _ _ => rfl)) (by decide) ?_
   refine VL.gy rfl rfl (q_pick_f rfl rfl) (by decide) ?_
   refine Zt ?_
   refine Za ?_
   refine Zl ?_
   refine VC.keep [4] rfl ?_
   cases hS
   exact Ze
  replace hS := it_t h11 hS
  refine Zn ?_
  refine Zn ?_
  refine Zn ?_
  refine Zn ?_
  refine VL.gu rfl rfl (by decide) ?_
  refine VL.gu rfl rfl (by decide) ?_
  refine VL.gu rfl rfl (by decide) ?_
  refine Zn ?_
  refine Zf ?_
  refine Za ?_
  refine Zl ?_
  refine VC.keep [4] rfl ?_
  cases hS
  exact Ze
 replace hS := it_t h7 hS
 refine Zn ?_
 refine Zn ?_
 refine Zf ?_
 refine Zm ?_
 refine Zn ?_
 refine Zn ?_
 refine Zn ?_
 refine Zn ?_
 refine VL.gu rfl rfl (by decide) ?_
 refine VL.gu rfl rfl (by decide) ?_
 refine VL.gu rfl rfl (by decide) ?_
 refine Zn ?_
 refine Zf ?_
 refine Za ?_
 refine Zl ?_
 refine VC.keep [4] rfl ?_
 cases hS
 exact Ze
theorem rectoref14_Check_ct (r_0 : Sv Rectoref14File) {r : Rectoref3WrongP} (hS : Sh.rectoref14_Check r_0.l = some r) :
 Ct Tryz.prog 21 [r_0.val] r_0.ok (Ow.emp) (X := Rectoref3Wrong) (fun x => .agg (Dat.enc x).toArray) (fun x => r = x.pl) (fun x => x.m) (fun x => Ow.emp) := by
 refine Ct.of Tryz.func21 rfl (by kernel_rfl) Tryz.ntmps21 (by simp) fun c => ?_
 unfold Sh.rectoref14_Check at hS
 refine Zq (Zr ?_)
 refine VL.alloc (cs := [.slice none 0 0, i64 0]) (by kernel_rfl) (by decide) fun b2_1 => ?_
 refine Zl ?_
 refine Zq (Zq (Zr ?_))
 refine Zm ?_
 refine VL.q (q_ln (s := r_0) Tryz.underlying48 rfl) (by decide) ?_
 refine VL.q (q_gtr rfl rfl) (by decide) ?_
 refine Zl ?_
 refine VC.cond_dec rfl (fun h8 => ?_) (fun h8 => ?_)
 ·
  replace hS := it_t h8 hS
  refine Zq (Zr ?_)
  obtain ⟨y9_2, ey9_2, hS⟩ := bd_s hS
  refine VL.callF (rectoref3_At_ct [102, 105, 108, 101] 64 4 ey9_2) rfl (by decide) ?_
  rintro q9_2_0 rfl
  try dsimp only
  refine VL.store (vc := [q9_2_0.parts.val, i64 q9_2_0.err]) (cs' := [q9_2_0.parts.val, i64 q9_2_0.err]) rfl rfl rfl gsz54 rfl rfl (Nat.le_of_ble_eq_true rfl) rfl ?_
  refine Zl ?_
  cases hS
  exact VC.ret (finG (vs := [.agg #[q9_2_0.parts.val, i64 q9_2_0.err]]) (.inr rfl) rfl (RVs.cell gagg54 rfl rfl Rd.blk (RVs.nil)) ⟨q9_2_0.parts, q9_2_0.err⟩ rfl rfl (by (try dsimp only); exact InM.out) (fun _ _ => trivial))
 replace hS := it_f h8 hS
 refine Zk ?_
 refine Zq (Zq (Zr ?_))
 refine Za ?_
 refine Zl ?_
 refine Zb ?_
 refine VC.iter (S := Int) (fun (i3_3 : Int) => i3_3) (fun (i3_3 : Int) => [(0, r_0.val), (2, ptr b2_1 0), (3, i64 i3_3)]) (fun (i3_3 : Int) => Mo.tt) (fun (i3_3 : Int) => Ow.star (Blk b2_1 [.slice none 0 0, i64 0] 54) (Ow.emp)) 0 [0, 2, 3] hS rfl ?_
 clear hS
 rintro i3_3 m1 y1 hS hK1
 show VC _ _ _ _ _ [(0, r_0.val), (2, ptr b2_1 0), (3, i64 i3_3)] (Mo.and Mo.tt _) (Ow.star (Blk b2_1 [.slice none 0 0, i64 0] 54) (Ow.emp))
 refine Zq (Zq (Zr ?_))
 refine Zm ?_
 refine Zm ?_
 refine VL.q (q_ln (s := r_0) Tryz.underlying48 rfl) (by decide) ?_
 refine VL.q (q_lss rfl rfl) (by decide) ?_
 refine Zl ?_
 refine VC.cond_dec rfl (fun h13 => ?_) (fun h13 => ?_)
 ·
  replace hS := it_t h13 hS
  refine Zk ?_
  refine Zq (Zb (Zq (Zr ?_)))
  refine Zm ?_
  refine Zm ?_
  obtain ⟨z18_4, nz18_4, hz18_4, hS⟩ := at_s hS
  refine VL.q (q_ixm (s := r_0) Tryz.underlying48 gsz45 rfl rfl nz18_4 (lt_of_get nz18_4 hz18_4)) (by decide) ?_
  refine VL.q (q_els (s := r_0) gagg45 rfl rfl hz18_4) (by decide) ?_
  obtain ⟨y20_5, ey20_5, hS⟩ := bd_s hS
  refine VL.q (q_call (rectoref14_Cause_ct (⟨z18_4.path, z18_4.mode, z18_4.data⟩ : Rectoref14File) ey20_5) rfl (fun _ _ => rfl)) (by decide) ?_
  refine Za ?_
  refine Zl ?_
  refine VC.keep [0, 2, 3, 4] rfl ?_
  refine VC.cutJ (S := Int) (fun (e4_6 : Int) => e4_6) (fun (e4_6 : Int) => [(0, r_0.val), (2, ptr b2_1 0), (3, i64 i3_3), (4, i64 e4_6)]) (fun (e4_6 : Int) => Mo.tt) (fun (e4_6 : Int) => Ow.star (Blk b2_1 [.slice none 0 0, i64 0] 54) (Ow.emp)) hS ?_ ?_
  ·
   clear hS
   intro k7 hS
   refine VC.cutJ (S := Bool) (fun (x40_8 : Bool) => x40_8) (fun (x40_8 : Bool) => [(0, r_0.val), (2, ptr b2_1 0), (3, i64 i3_3), (4, i64 y20_5), (40, .bool x40_8)]) (fun (x40_8 : Bool) => Mo.tt) (fun (x40_8 : Bool) => Ow.star (Blk b2_1 [.slice none 0 0, i64 0] 54) (Ow.emp)) hS ?_ ?_
   ·
    clear hS
    intro k9 hS
    refine VC.draw ((List.range 20).map fun k => (k, true)) mixed (by kernel_rfl) (by kernel_rfl) (by kernel_rfl) ?_
    refine VD.q rfl (q_move rfl) (by decide) ?_
    refine VD.q rfl (q_eql rfl rfl) (by decide) ?_
    refine VD.q rfl (q_move rfl) (by decide) ?_
    refine VD.split_dec 23 rfl (fun h23 => ?_) (fun h23 => ?_)
    ·
     replace hS := it_t h23 hS
     refine VD.gy rfl rfl rfl (q_move rfl) (by decide) ?_
     refine VD.gy rfl rfl rfl (q_gtr rfl rfl) (by decide) ?_
     refine VD.q rfl (q_pick_t rfl rfl) (by decide) ?_
     refine VD.q rfl (q_move rfl) (by decide) ?_
     refine VD.split_dec 27 rfl (fun h27 => ?_) (fun h27 => ?_)
     ·
      replace hS := it_t h27 hS
      refine VD.gy rfl rfl rfl (q_move rfl) (by decide) ?_
      refine VD.gy rfl rfl rfl (q_move rfl) (by decide) ?_
      obtain ⟨b30, hS⟩ := gd_s hS
      refine VD.gy rfl rfl rfl (q_sub rfl rfl b30) (by decide) ?_
      obtain ⟨z31_10, nz31_10, hz31_10, hS⟩ := at_s hS
      refine VD.gy rfl rfl rfl (q_ixm (s := r_0) Tryz.underlying48 gsz45 rfl rfl nz31_10 (lt_of_get nz31_10 hz31_10)) (by decide) ?_
      refine VD.gy rfl rfl rfl (q_field gfa45_0 rfl) (by decide) ?_
      refine VD.gy rfl rfl rfl (q_elf (s := r_0) gone9 rfl hz31_10 rfl) (by decide) ?_
      refine VD.gy rfl rfl rfl (q_move rfl) (by decide) ?_
      refine VD.gy rfl rfl rfl (q_move rfl) (by decide) ?_
      obtain ⟨z36_11, nz36_11, hz36_11, hS⟩ := at_s hS
      refine VD.gy rfl rfl rfl (q_ixm (s := r_0) Tryz.underlying48 gsz45 rfl rfl nz36_11 (lt_of_get nz36_11 hz36_11)) (by decide) ?_
      refine VD.gy rfl rfl rfl (q_field gfa45_0 rfl) (by decide) ?_
      refine VD.gy rfl rfl rfl (q_elf (s := r_0) gone9 rfl hz36_11 rfl) (by decide) ?_
      refine VD.gy rfl rfl rfl (q_sgeq rfl rfl) (by decide) ?_
      refine VD.q rfl (q_pick_t rfl rfl) (by decide) ?_
      refine VD.mt (!Op.bytesLess z31_10.path z36_11.path) [0, 2, 3, 4, 40] (fun _ _ h => h) hS rfl
     replace hS := it_f h27 hS
     refine Zd ?_
     refine Zd ?_
     refine Zd ?_
     refine Zd ?_
     refine Zd ?_
     refine Zd ?_
     refine Zd ?_
     refine Zd ?_
     refine Zd ?_
     refine Zd ?_
     refine Zd ?_
     refine Zd ?_
     refine VD.q rfl (q_pick_f rfl rfl) (by decide) ?_
     refine VD.mt false [0, 2, 3, 4, 40] (fun _ _ h => h) hS rfl
    replace hS := it_f h23 hS
    refine Zd ?_
    refine Zd ?_
    refine VD.q rfl (q_pick_f rfl rfl) (by decide) ?_
    refine VD.q rfl (q_move rfl) (by decide) ?_
    refine Zd ?_
    refine Zd ?_
    refine Zd ?_
    refine Zd ?_
    refine Zd ?_
    refine Zd ?_
    refine Zd ?_
    refine Zd ?_
    refine Zd ?_
    refine Zd ?_
    refine Zd ?_
    refine Zd ?_
    refine VD.q rfl (q_pick_f rfl rfl) (by decide) ?_
    refine VD.mt false [0, 2, 3, 4, 40] (fun _ _ h => h) hS rfl
   clear hS
   rintro x40_8 hS
   show VC _ _ _ _ _ [(0, r_0.val), (2, ptr b2_1 0), (3, i64 i3_3), (4, i64 y20_5), (40, .bool x40_8)] (Mo.and Mo.tt _) (Ow.star (Blk b2_1 [.slice none 0 0, i64 0] 54) (Ow.emp))
   refine VC.cond rfl (fun h40 => ?_) (fun h40 => ?_)
   ·
    replace hS := it_t h40 hS
    refine Zr ?_
    refine Za ?_
    refine VL.mt 6 [0, 2, 3, 4] (fun _ _ h => h) hS rfl
   replace hS := it_b h40 hS
   refine VC.skip_mt y20_5 [0, 2, 3, 4] (fun _ _ h => h) hS rfl
  clear hS
  rintro e4_6 hS
  show VC _ _ _ _ _ [(0, r_0.val), (2, ptr b2_1 0), (3, i64 i3_3), (4, i64 e4_6)] (Mo.and Mo.tt _) (Ow.star (Blk b2_1 [.slice none 0 0, i64 0] 54) (Ow.emp))
  refine VC.cutJ (S := Int) (fun (e4_12 : Int) => e4_12) (fun (e4_12 : Int) => [(0, r_0.val), (2, ptr b2_1 0), (3, i64 i3_3), (4, i64 e4_12)]) (fun (e4_12 : Int) => Mo.tt) (fun (e4_12 : Int) => Ow.star (Blk b2_1 [.slice none 0 0, i64 0] 54) (Ow.emp)) hS ?_ ?_
  ·
   clear hS
   intro k13 hS
   refine Zq (Zr ?_)
   refine Za ?_
   refine Zl ?_
   refine Zb ?_
   refine VC.iter (S := Int × Int) (fun sg => (sg.1, sg.2)) (fun sg => [(0, r_0.val), (2, ptr b2_1 0), (3, i64 i3_3), (4, i64 sg.1), (5, i64 sg.2)]) (fun sg => Mo.tt) (fun sg => Ow.star (Blk b2_1 [.slice none 0 0, i64 0] 54) (Ow.emp)) (e4_6, 0) [0, 2, 3, 4, 5] hS rfl ?_
   clear hS
   rintro ⟨e4_14, k5_15⟩ m2 y2 hS hK2
   show VC _ _ _ _ _ [(0, r_0.val), (2, ptr b2_1 0), (3, i64 i3_3), (4, i64 e4_14), (5, i64 k5_15)] (Mo.and Mo.tt _) (Ow.star (Blk b2_1 [.slice none 0 0, i64 0] 54) (Ow.emp))
   refine Zq (Zq (Zr ?_))
   refine Zm ?_
   refine Zm ?_
   refine VL.q (q_lss rfl rfl) (by decide) ?_
   refine Zm ?_
   refine VL.split_dec 44 rfl (fun h44 => ?_) (fun h44 => ?_)
   ·
    replace hS := it_t h44 hS
    refine Zg ?_
    refine VL.gy rfl rfl (q_eql rfl rfl) (by decide) ?_
    refine Zt ?_
    refine Zl ?_
    refine VC.cond_dec rfl (fun h47 => ?_) (fun h47 => ?_)
    ·
     replace hS := it_t h47 hS
     refine Zk ?_
     refine VC.keep [0, 2, 3, 4, 5] rfl ?_
     refine VC.cutJ (S := Int) (fun (e4_16 : Int) => e4_16) (fun (e4_16 : Int) => [(0, r_0.val), (2, ptr b2_1 0), (3, i64 i3_3), (4, i64 e4_16), (5, i64 k5_15)]) (fun (e4_16 : Int) => Mo.tt) (fun (e4_16 : Int) => Ow.star (Blk b2_1 [.slice none 0 0, i64 0] 54) (Ow.emp)) hS ?_ ?_
     ·
      clear hS
      intro k17 hS
      refine Zb (Zq ?_)
      refine VC.draw ((List.range 11).map fun k => (k, true)) mixed (by kernel_rfl) (by kernel_rfl) (by kernel_rfl) ?_
      refine VD.q rfl (q_move rfl) (by decide) ?_
      refine VD.q rfl (q_move rfl) (by decide) ?_
      obtain ⟨z52_18, nz52_18, hz52_18, hS⟩ := at_s hS
      refine VD.q rfl (q_ixm (s := r_0) Tryz.underlying48 gsz45 rfl rfl nz52_18 (lt_of_get nz52_18 hz52_18)) (by decide) ?_
      refine VD.q rfl (q_field gfa45_0 rfl) (by decide) ?_
      refine VD.q rfl (q_elf (s := r_0) gone9 rfl hz52_18 rfl) (by decide) ?_
      refine VD.q rfl (q_move rfl) (by decide) ?_
      refine VD.q rfl (q_move rfl) (by decide) ?_
      obtain ⟨z57_19, nz57_19, hz57_19, hS⟩ := at_s hS
      refine VD.q rfl (q_ixm (s := r_0) Tryz.underlying48 gsz45 rfl rfl nz57_19 (lt_of_get nz57_19 hz57_19)) (by decide) ?_
      refine VD.q rfl (q_field gfa45_0 rfl) (by decide) ?_
      refine VD.q rfl (q_elf (s := r_0) gone9 rfl hz57_19 rfl) (by decide) ?_
      obtain ⟨y60_20, ey60_20, hS⟩ := bd_s hS
      refine VD.q rfl (q_call (rectoref1_Clash_ct z52_18.path z57_19.path ey60_20) rfl (fun _ _ => rfl)) (by decide) ?_
      refine VD.to (fun _ _ h => h) ?_
      refine VC.keep [0, 2, 3, 4, 5, 60] rfl ?_
      refine VC.cond rfl (fun h60 => ?_) (fun h60 => ?_)
      ·
       replace hS := it_t h60 hS
       refine Zr ?_
       refine Za ?_
       refine VL.mt 11 [0, 2, 3, 4, 5] (fun _ _ h => h) hS rfl
      replace hS := it_b h60 hS
      refine VC.skip_mt e4_14 [0, 2, 3, 4, 5] (fun _ _ h => h) hS rfl
     clear hS
     rintro e4_16 hS
     show VC _ _ _ _ _ [(0, r_0.val), (2, ptr b2_1 0), (3, i64 i3_3), (4, i64 e4_16), (5, i64 k5_15)] (Mo.and Mo.tt _) (Ow.star (Blk b2_1 [.slice none 0 0, i64 0] 54) (Ow.emp))
     refine Zr ?_
     refine Zm ?_
     obtain ⟨b49, hS⟩ := gd_s hS
     refine VL.q (q_add rfl rfl b49) (by decide) ?_
     refine Za ?_
     refine VL.rnd (e4_16, (k5_15 + 1)) [0, 2, 3, 4, 5] (fun _ _ h => h) (go2 hS hK2) rfl
    replace hS := it_f h47 hS
    replace hS := up2 hS hK2
    refine VC.exit_mt e4_14 [0, 2, 3, 4] (fun _ _ h => h) hS rfl
   replace hS := it_f h44 hS
   refine Zn ?_
   refine Zn ?_
   refine Zf ?_
   refine Zl ?_
   refine VC.cond_f rfl ?_
   replace hS := up2 hS hK2
   refine VC.exit_mt e4_14 [0, 2, 3, 4] (fun _ _ h => h) hS rfl
  clear hS
  rintro e4_12 hS
  show VC _ _ _ _ _ [(0, r_0.val), (2, ptr b2_1 0), (3, i64 i3_3), (4, i64 e4_12)] (Mo.and Mo.tt _) (Ow.star (Blk b2_1 [.slice none 0 0, i64 0] 54) (Ow.emp))
  refine Zq (Zr ?_)
  refine Zm ?_
  refine VL.q (q_neq rfl rfl) (by decide) ?_
  refine Zl ?_
  refine VC.cond_ndec rfl (fun h62 => ?_) (fun h62 => ?_)
  ·
   replace hS := it_f h62 hS
   refine Zq (Zr ?_)
   refine Zm ?_
   refine Zm ?_
   obtain ⟨y65_21, ey65_21, hS⟩ := bd_s hS
   refine VL.callF (rectoref3_At_ct [102, 105, 108, 101] i3_3 e4_12 ey65_21) rfl (by decide) ?_
   rintro q65_21_0 rfl
   try dsimp only
   refine VL.store (vc := [q65_21_0.parts.val, i64 q65_21_0.err]) (cs' := [q65_21_0.parts.val, i64 q65_21_0.err]) rfl rfl rfl gsz54 rfl rfl (Nat.le_of_ble_eq_true rfl) rfl ?_
   refine Zl ?_
   replace hS := up2 hS hK1
   cases hS
   exact VC.ret (finG (vs := [.agg #[q65_21_0.parts.val, i64 q65_21_0.err]]) (.inr rfl) rfl (RVs.cell gagg54 rfl rfl Rd.blk (RVs.nil)) ⟨q65_21_0.parts, q65_21_0.err⟩ rfl rfl (by (try dsimp only); exact InM.out) (fun _ _ => trivial))
  replace hS := it_t h62 hS
  refine Zk ?_
  refine Zr ?_
  refine Zm ?_
  obtain ⟨b15, hS⟩ := gd_s hS
  refine VL.q (q_add rfl rfl b15) (by decide) ?_
  refine Za ?_
  refine VL.rnd (i3_3 + 1) [0, 2, 3] (fun _ _ h => h) (go2 hS hK1) rfl
 replace hS := it_f h13 hS
 replace hS := up2 hS hK1
 refine Zx ?_
 refine Zq (Zr ?_)
 refine VL.q (q_build (vs := []) (cs := #[.slice none 0 0, i64 0]) rfl (by kernel_rfl)) (by decide) ?_
 refine VL.store (vc := [.slice none 0 0, i64 0]) (cs' := [.slice none 0 0, i64 0]) rfl rfl rfl gsz54 rfl rfl (Nat.le_of_ble_eq_true rfl) rfl ?_
 refine Zl ?_
 cases hS
 exact VC.ret (finG (vs := [.agg #[.slice none 0 0, i64 0]]) (.inr rfl) rfl (RVs.cell gagg54 rfl rfl Rd.blk (RVs.nil)) ⟨⟨none, 0, []⟩, 0⟩ rfl rfl (by (try dsimp only); exact InM.out) (fun _ _ => trivial))
theorem api_Errno_Error_ct (e_0 : Int) {r : Str} (hS : Sh.api_Errno_Error e_0 = some r) :
 Ct Tryz.prog 340 [i64 e_0] Mo.tt (Ow.emp) (X := Unit) (fun _ => str r) (fun _ => True) (fun _ => Mo.tt) (fun _ => Ow.emp) := by
 refine Ct.of Tryz.func340 rfl (by kernel_rfl) Tryz.ntmps340 (by simp) fun c => ?_
 unfold Sh.api_Errno_Error at hS
 refine Zq (Zr ?_)
 refine Za ?_
 refine Zl ?_
 refine Zq (Zq (Zr ?_))
 refine Zm ?_
 refine Zl ?_
 refine Zb (Zq (Zr ?_))
 refine VL.q (q_eql rfl rfl) (by decide) ?_
 refine Za ?_
 refine Zl ?_
 refine VC.cond_dec rfl (fun h4 => ?_) (fun h4 => ?_)
 ·
  replace hS := it_t h4 hS
  refine Zq (Zr ?_)
  refine Za ?_
  refine Zl ?_
  cases hS
  exact Ze
 replace hS := it_f h4 hS
 refine Zq (Zr ?_)
 refine VL.q (q_eql rfl rfl) (by decide) ?_
 refine Za ?_
 refine Zl ?_
 refine VC.cond_dec rfl (fun h6 => ?_) (fun h6 => ?_)
 ·
  replace hS := it_t h6 hS
  refine Zq (Zr ?_)
  refine Za ?_
  refine Zl ?_
  cases hS
  exact Ze
 replace hS := it_f h6 hS
 refine Zq (Zr ?_)
 refine VL.q (q_eql rfl rfl) (by decide) ?_
 refine Za ?_
 refine Zl ?_
 refine VC.cond_dec rfl (fun h8 => ?_) (fun h8 => ?_)
 ·
  replace hS := it_t h8 hS
  refine Zq (Zr ?_)
  refine Za ?_
  refine Zl ?_
  cases hS
  exact Ze
 replace hS := it_f h8 hS
 refine Zq (Zr ?_)
 refine VL.q (q_eql rfl rfl) (by decide) ?_
 refine Za ?_
 refine Zl ?_
 refine VC.keep [3, 10] rfl ?_
 refine VC.cond_dec rfl (fun h10 => ?_) (fun h10 => ?_)
 ·
  replace hS := it_t h10 hS
  refine Zq (Zr ?_)
  refine Za ?_
  refine Zl ?_
  cases hS
  exact Ze
 replace hS := it_f h10 hS
 refine Zq (Zr ?_)
 refine VL.q (q_eql rfl rfl) (by decide) ?_
 refine Za ?_
 refine Zl ?_
 refine VC.cond_dec rfl (fun h12 => ?_) (fun h12 => ?_)
 ·
  replace hS := it_t h12 hS
  refine Zq (Zr ?_)
  refine Za ?_
  refine Zl ?_
  cases hS
  exact Ze
 replace hS := it_f h12 hS
 refine Zq (Zr ?_)
 refine VL.q (q_eql rfl rfl) (by decide) ?_
 refine Za ?_
 refine Zl ?_
 refine VC.cond_dec rfl (fun h14 => ?_) (fun h14 => ?_)
 ·
  replace hS := it_t h14 hS
  refine Zq (Zr ?_)
  refine Za ?_
  refine Zl ?_
  cases hS
  exact Ze
 replace hS := it_f h14 hS
 refine Zq (Zr ?_)
 refine VL.q (q_eql rfl rfl) (by decide) ?_
 refine Za ?_
 refine Zl ?_
 refine VC.cond_dec rfl (fun h16 => ?_) (fun h16 => ?_)
 ·
  replace hS := it_t h16 hS
  refine Zq (Zr ?_)
  refine Za ?_
  refine Zl ?_
  cases hS
  exact Ze
 replace hS := it_f h16 hS
 refine Zq (Zr ?_)
 refine VL.q (q_eql rfl rfl) (by decide) ?_
 refine Za ?_
 refine Zl ?_
 refine VC.cond_dec rfl (fun h18 => ?_) (fun h18 => ?_)
 ·
  replace hS := it_t h18 hS
  refine Zq (Zr ?_)
  refine Za ?_
  refine Zl ?_
  refine VC.keep [2] rfl ?_
  cases hS
  exact Ze
 replace hS := it_f h18 hS
 refine Zq (Zr ?_)
 refine VL.q (q_eql rfl rfl) (by decide) ?_
 refine Za ?_
 refine Zl ?_
 refine VC.keep [3, 20] rfl ?_
 refine VC.cond_dec rfl (fun h20 => ?_) (fun h20 => ?_)
 ·
  replace hS := it_t h20 hS
  refine Zq (Zr ?_)
  refine Za ?_
  refine Zl ?_
  cases hS
  exact Ze
 replace hS := it_f h20 hS
 refine Zq (Zr ?_)
 refine VL.q (q_eql rfl rfl) (by decide) ?_
 refine Za ?_
 refine Zl ?_
 refine VC.cond_dec rfl (fun h22 => ?_) (fun h22 => ?_)
 ·
  replace hS := it_t h22 hS
  refine Zq (Zr ?_)
  refine Za ?_
  refine Zl ?_
  cases hS
  exact Ze
 replace hS := it_f h22 hS
 refine Zq (Zr ?_)
 refine VL.q (q_eql rfl rfl) (by decide) ?_
 refine Za ?_
 refine Zl ?_
 refine VC.cond_dec rfl (fun h24 => ?_) (fun h24 => ?_)
 ·
  replace hS := it_t h24 hS
  refine Zq (Zr ?_)
  refine Za ?_
  refine Zl ?_
  cases hS
  exact Ze
 replace hS := it_f h24 hS
 refine Zq (Zr ?_)
 refine VL.q (q_eql rfl rfl) (by decide) ?_
 refine Za ?_
 refine Zl ?_
 refine VC.cond_dec rfl (fun h26 => ?_) (fun h26 => ?_)
 ·
  replace hS := it_t h26 hS
  refine Zq (Zr ?_)
  refine Za ?_
  refine Zl ?_
  cases hS
  exact Ze
 replace hS := it_f h26 hS
 refine Zq (Zr ?_)
 refine VL.q (q_eql rfl rfl) (by decide) ?_
 refine Za ?_
 refine Zl ?_
 refine VC.cond_dec rfl (fun h28 => ?_) (fun h28 => ?_)
 ·
  replace hS := it_t h28 hS
  refine Zq (Zr ?_)
  refine Za ?_
  refine Zl ?_
  refine VC.keep [2] rfl ?_
  cases hS
  exact Ze
 replace hS := it_f h28 hS
 refine Zq (Zr ?_)
 refine VL.q (q_eql rfl rfl) (by decide) ?_
 refine Za ?_
 refine Zl ?_
 refine VC.keep [3, 30] rfl ?_
 refine VC.cond_dec rfl (fun h30 => ?_) (fun h30 => ?_)
 ·
  replace hS := it_t h30 hS
  refine Zq (Zr ?_)
  refine Za ?_
  refine Zl ?_
  cases hS
  exact Ze
 replace hS := it_f h30 hS
 refine Zq (Zr ?_)
 refine VL.q (q_eql rfl rfl) (by decide) ?_
 refine Za ?_
 refine Zl ?_
 refine VC.cond_dec rfl (fun h32 => ?_) (fun h32 => ?_)
 ·
  replace hS := it_t h32 hS
  refine Zq (Zr ?_)
  refine Za ?_
  refine Zl ?_
  cases hS
  exact Ze
 replace hS := it_f h32 hS
 refine Zk ?_
 refine Zq (Zr ?_)
 refine Za ?_
 refine Zl ?_
 cases hS
 exact Ze
theorem internal_strconv_small_ct (i_0 : Int) {r : Str} (hS : Sh.internal_strconv_small i_0 = some r) :
 Ct Tryz.prog 330 [i64 i_0] Mo.tt (Ow.emp) (X := Unit) (fun _ => str r) (fun _ => True) (fun _ => Mo.tt) (fun _ => Ow.emp) := by
 refine Ct.of Tryz.func330 rfl (by kernel_rfl) Tryz.ntmps330 (by simp) fun c => ?_
 unfold Sh.internal_strconv_small at hS
 refine Zq (Zr ?_)
 refine Za ?_
 refine Zl ?_
 refine Zq (Zq (Zr ?_))
 refine Zm ?_
 refine VL.q (q_lss rfl rfl) (by decide) ?_
 refine Zl ?_
 refine VC.cond_dec rfl (fun h4 => ?_) (fun h4 => ?_)
 ·
  replace hS := it_t h4 hS
  refine Zq (Zr ?_)
  refine Zm ?_
  refine Zm ?_
  obtain ⟨b7, hS⟩ := gd_s hS
  refine VL.q (q_add rfl rfl b7) (by decide) ?_
  obtain ⟨b8, hS⟩ := gd_s hS
  obtain ⟨y8_1, ey8_1, hS⟩ := lt_s hS
  refine VL.q (q_smidE Tryz.underlying9 rfl rfl rfl b8.1 b8.2.1 b8.2.2 ey8_1) (by decide) ?_
  refine Za ?_
  refine Zl ?_
  cases hS
  exact Ze
 replace hS := it_f h4 hS
 refine Zk ?_
 refine Zq (Zr ?_)
 refine Zm ?_
 obtain ⟨b10, hS⟩ := gd_s hS
 refine VL.q (q_mul rfl rfl b10) (by decide) ?_
 refine Zm ?_
 obtain ⟨b12, hS⟩ := gd_s hS
 refine VL.q (q_mul rfl rfl b12) (by decide) ?_
 obtain ⟨b13, hS⟩ := gd_s hS
 refine VL.q (q_add rfl rfl b13) (by decide) ?_
 obtain ⟨b14, hS⟩ := gd_s hS
 obtain ⟨y14_2, ey14_2, hS⟩ := lt_s hS
 refine VL.q (q_smidE Tryz.underlying9 rfl rfl rfl b14.1 b14.2.1 b14.2.2 ey14_2) (by decide) ?_
 refine Za ?_
 refine Zl ?_
 cases hS
 exact Ze
theorem internal_strconv_FormatInt_ct (i_0 : Int) (base_1 : Int) {r : Str} (hS : Sh.internal_strconv_FormatInt i_0 base_1 = some r) :
 Ct Tryz.prog 329 [i64 i_0, i64 base_1] Mo.tt (Ow.emp) (X := Unit) (fun _ => str r) (fun _ => True) (fun _ => Mo.tt) (fun _ => Ow.emp) := by
 refine Ct.of Tryz.func329 rfl (by kernel_rfl) Tryz.ntmps329 (by simp) fun c => ?_
 unfold Sh.internal_strconv_FormatInt at hS
 refine Zq (Zr ?_)
 refine Za ?_
 refine Zl ?_
 refine Zq (Zq (Zr ?_))
 refine Zm ?_
 refine VL.q (q_eql rfl rfl) (by decide) ?_
 refine Zl ?_
 refine VC.cond_dec rfl (fun h11 => ?_) (fun h11 => ?_)
 ·
  replace hS := it_t h11 hS
  refine Zq ?_
  refine VC.cutJ (S := Bool) (fun (x17_1 : Bool) => x17_1) (fun (x17_1 : Bool) => [(0, i64 i_0), (17, .bool x17_1)]) (fun (x17_1 : Bool) => Mo.tt) (fun (x17_1 : Bool) => Ow.emp) hS ?_ ?_
  ·
   clear hS
   intro k2 hS
   refine Zr ?_
   refine Zm ?_
   refine VL.q (q_leq rfl rfl) (by decide) ?_
   refine Zm ?_
   refine VL.split_dec 14 rfl (fun h14 => ?_) (fun h14 => ?_)
   ·
    replace hS := it_t h14 hS
    refine Zg ?_
    refine VL.gy rfl rfl (q_lss rfl rfl) (by decide) ?_
    refine Zt ?_
    refine VL.mt (decide (i_0 < 100)) [0, 17] (fun _ _ h => h) hS rfl
   replace hS := it_f h14 hS
   refine Zn ?_
   refine Zn ?_
   refine Zf ?_
   refine VL.mt false [0, 17] (fun _ _ h => h) hS rfl
  clear hS
  rintro x17_1 hS
  show VC _ _ _ _ _ [(0, i64 i_0), (17, .bool x17_1)] (Mo.and Mo.tt _) (Ow.emp)
  refine VC.cond rfl (fun h17 => ?_) (fun h17 => ?_)
  ·
   replace hS := it_t h17 hS
   refine Zq (Zr ?_)
   refine Zm ?_
   obtain ⟨y19_3, ey19_3, hS⟩ := bd_s hS
   refine VL.q (q_call (internal_strconv_small_ct i_0 ey19_3) rfl (fun _ _ => rfl)) (by decide) ?_
   refine Za ?_
   refine Zl ?_
   cases hS
   exact Ze
  replace hS := it_b h17 hS
  refine Zk ?_
  refine Zq (Zr ?_)
  cases hS
 replace hS := it_f h11 hS
 refine Zk ?_
 refine Zq (Zr ?_)
 refine Zm ?_
 refine VL.q (q_convW Tryz.underlying2 Tryz.underlying231 rfl) (by decide) ?_
 refine Zm ?_
 refine Zm ?_
 refine VL.q (q_lss rfl rfl) (by decide) ?_
 cases hS
theorem internal_strconv_Itoa_ct (i_0 : Int) {r : Str} (hS : Sh.internal_strconv_Itoa i_0 = some r) :
 Ct Tryz.prog 328 [i64 i_0] Mo.tt (Ow.emp) (X := Unit) (fun _ => str r) (fun _ => True) (fun _ => Mo.tt) (fun _ => Ow.emp) := by
 refine Ct.of Tryz.func328 rfl (by kernel_rfl) Tryz.ntmps328 (by simp) fun c => ?_
 unfold Sh.internal_strconv_Itoa at hS
 refine Zq (Zr ?_)
 refine Za ?_
 refine Zl ?_
 refine Zq (Zr ?_)
 refine Zm ?_
 obtain ⟨y4_1, ey4_1, hS⟩ := bd_s hS
 refine VL.q (q_call (internal_strconv_FormatInt_ct i_0 10 ey4_1) rfl (fun _ _ => rfl)) (by decide) ?_
 refine Za ?_
 refine Zl ?_
 cases hS
 exact Ze
theorem strconv_Itoa_ct (i_0 : Int) {r : Str} (hS : Sh.strconv_Itoa i_0 = some r) :
 Ct Tryz.prog 327 [i64 i_0] Mo.tt (Ow.emp) (X := Unit) (fun _ => str r) (fun _ => True) (fun _ => Mo.tt) (fun _ => Ow.emp) := by
 refine Ct.of Tryz.func327 rfl (by kernel_rfl) Tryz.ntmps327 (by simp) fun c => ?_
 unfold Sh.strconv_Itoa at hS
 refine Zq (Zr ?_)
 refine Za ?_
 refine Zl ?_
 refine Zq (Zr ?_)
 refine Zm ?_
 obtain ⟨y4_1, ey4_1, hS⟩ := bd_s hS
 refine VL.q (q_call (internal_strconv_Itoa_ct i_0 ey4_1) rfl (fun _ _ => rfl)) (by decide) ?_
 refine Za ?_
 refine Zl ?_
 cases hS
 exact Ze
theorem api_Fault_Error_ct (f_0_b : Nat) (f_0 : ApiFault) {E : Option Str} (ih : ∀ {y : Str}, E = some y → Says Tryz.prog f_0.err.val "Error" (f_0.err.ok.and Gl) (str y)) {r : Str} (hS : Sh.api_Fault_Error f_0.pl E = some r) :
 Ct Tryz.prog 325 [ptr f_0_b 0] (f_0.err.ok.and ((Cells f_0_b 0 [str f_0.part, i64 f_0.at_, f_0.err.val]).and Gl)) (Ow.emp) (X := Unit) (fun _ => str r) (fun _ => True) (fun _ => Mo.tt) (fun _ => Ow.emp) := by
 refine Ct.of Tryz.func325 rfl (by kernel_rfl) Tryz.ntmps325 (by simp) fun c => ?_
 unfold Sh.api_Fault_Error at hS
 refine Zq (Zr ?_)
 refine Za ?_
 refine Zl ?_
 refine Zq (Zq (Zr ?_))
 refine Zm ?_
 refine VL.q (q_nilCheck rfl) (by decide) ?_
 refine VL.q (q_field gfa117_2 rfl) (by decide) ?_
 refine VL.q (q_fm gone29 rfl rfl) (by decide) ?_
 refine VL.q (q_ereq Tryz.underlying29 rfl) (by decide) ?_
 refine Zl ?_
 refine VC.cond_dec rfl (fun h7 => ?_) (fun h7 => ?_)
 ·
  replace hS := it_t h7 hS
  refine Zq ?_
  refine VC.draw ((List.range 12).map fun k => (k, true)) mixed (by kernel_rfl) (by kernel_rfl) (by kernel_rfl) ?_
  refine VD.q rfl (q_move rfl) (by decide) ?_
  refine VD.q rfl (q_nilCheck rfl) (by decide) ?_
  refine VD.q rfl (q_field gfa117_0 rfl) (by decide) ?_
  refine VD.q rfl (q_fm gone9 rfl rfl) (by decide) ?_
  obtain ⟨b12, hS⟩ := gd_s hS
  obtain ⟨y12_1, ey12_1, hS⟩ := lt_s hS
  refine VD.q rfl (q_catE rfl rfl b12 ey12_1) (by decide) ?_
  refine VD.q rfl (q_move rfl) (by decide) ?_
  refine VD.q rfl (q_nilCheck rfl) (by decide) ?_
  refine VD.q rfl (q_field gfa117_1 rfl) (by decide) ?_
  refine VD.q rfl (q_fm gone3 rfl rfl) (by decide) ?_
  obtain ⟨y17_2, ey17_2, hS⟩ := bd_s hS
  refine VD.q rfl (q_call (strconv_Itoa_ct f_0.at_ ey17_2) rfl (fun _ _ => rfl)) (by decide) ?_
  obtain ⟨b18, hS⟩ := gd_s hS
  obtain ⟨y18_3, ey18_3, hS⟩ := lt_s hS
  refine VD.q rfl (q_catE rfl rfl b18 ey18_3) (by decide) ?_
  refine VD.q rfl (q_assign rfl) (by decide) ?_
  refine VD.to (fun _ _ h => h) ?_
  refine VC.keep [2] rfl ?_
  cases hS
  exact Ze
 replace hS := it_f h7 hS
 refine Zk ?_
 refine Zq ?_
 refine VC.draw ((List.range 19).map fun k => (k, true)) mixed (by kernel_rfl) (by kernel_rfl) (by kernel_rfl) ?_
 refine VD.q rfl (q_move rfl) (by decide) ?_
 refine VD.q rfl (q_nilCheck rfl) (by decide) ?_
 refine VD.q rfl (q_field gfa117_0 rfl) (by decide) ?_
 refine VD.q rfl (q_fm gone9 rfl rfl) (by decide) ?_
 obtain ⟨b23, hS⟩ := gd_s hS
 obtain ⟨y23_4, ey23_4, hS⟩ := lt_s hS
 refine VD.q rfl (q_catE rfl rfl b23 ey23_4) (by decide) ?_
 refine VD.q rfl (q_move rfl) (by decide) ?_
 refine VD.q rfl (q_nilCheck rfl) (by decide) ?_
 refine VD.q rfl (q_field gfa117_1 rfl) (by decide) ?_
 refine VD.q rfl (q_fm gone3 rfl rfl) (by decide) ?_
 obtain ⟨y28_5, ey28_5, hS⟩ := bd_s hS
 refine VD.q rfl (q_call (strconv_Itoa_ct f_0.at_ ey28_5) rfl (fun _ _ => rfl)) (by decide) ?_
 obtain ⟨b29, hS⟩ := gd_s hS
 obtain ⟨y29_6, ey29_6, hS⟩ := lt_s hS
 refine VD.q rfl (q_catE rfl rfl b29 ey29_6) (by decide) ?_
 obtain ⟨b30, hS⟩ := gd_s hS
 obtain ⟨y30_7, ey30_7, hS⟩ := lt_s hS
 refine VD.q rfl (q_catE rfl rfl b30 ey30_7) (by decide) ?_
 refine VD.q rfl (q_move rfl) (by decide) ?_
 refine VD.q rfl (q_nilCheck rfl) (by decide) ?_
 refine VD.q rfl (q_field gfa117_2 rfl) (by decide) ?_
 refine VD.q rfl (q_fm gone29 rfl rfl) (by decide) ?_
 obtain ⟨y35_8, ey35_8, hS⟩ := bd_s hS
 refine VD.q rfl (q_say rfl (ih ey35_8)) (by decide) ?_
 obtain ⟨b36, hS⟩ := gd_s hS
 obtain ⟨y36_9, ey36_9, hS⟩ := lt_s hS
 refine VD.q rfl (q_catE rfl rfl b36 ey36_9) (by decide) ?_
 refine VD.q rfl (q_assign rfl) (by decide) ?_
 refine VD.to (fun _ _ h => h) ?_
 refine VC.keep [2] rfl ?_
 cases hS
 exact Ze
theorem fault_me (v : Value) : Meth Tryz.prog (.iface 114 v) "Error" 325 v := Meth.of fun w => by kernel_rfl
theorem errno_me (v : Value) : Meth Tryz.prog (.iface 115 v) "Error" 340 v := Meth.of fun w => by kernel_rfl
theorem text_says : ∀ (z : Er) {r : Str} (h : Sh.erText z.pl = some r), Says Tryz.prog z.val "Error" (z.ok.and Gl) (str r)
  | .nil, r, h => by cases h
  | .no n, r, h => ⟨340, i64 n, errno_me _, (api_Errno_Error_ct n h).weak (fun _ _ => trivial) (fun _ q => q)⟩
  | .fault b p a e, r, h => ⟨325, ptr b 0, fault_me _, (api_Fault_Error_ct b ⟨p, a, e⟩ (E := Sh.erText e.pl) (fun q => text_says e q) h).weak (fun _ m => ⟨m.1.2, m.1.1, m.2⟩) (fun _ q => q)⟩
theorem rectoref3_Decimal_r_ct (n_0 : Int) {r : Str} (hS : Sh.rectoref3_Decimal_r n_0 = some r) :
 Ct Tryz.prog 133 [i64 n_0] Mo.tt (Ow.emp) (X := Unit) (fun _ => str r) (fun _ => True) (fun _ => Mo.tt) (fun _ => Ow.emp) := by
 refine Ct.of Tryz.func133 rfl (by kernel_rfl) Tryz.ntmps133 (by simp) fun c => ?_
 unfold Sh.rectoref3_Decimal_r at hS
 refine Zq (Zr ?_)
 refine Za ?_
 refine Zl ?_
 refine Zq (Zq (Zr ?_))
 refine Zm ?_
 refine VL.q (q_lss rfl rfl) (by decide) ?_
 refine Zl ?_
 refine VC.cond_dec rfl (fun h5 => ?_) (fun h5 => ?_)
 ·
  replace hS := it_t h5 hS
  refine Zq (Zq (Zr ?_))
  refine Zm ?_
  refine VL.q (q_eql rfl rfl) (by decide) ?_
  refine Zl ?_
  refine VC.cond_dec rfl (fun h7 => ?_) (fun h7 => ?_)
  ·
   replace hS := it_t h7 hS
   refine Zq (Zr ?_)
   refine Za ?_
   refine Zl ?_
   cases hS
   exact Ze
  replace hS := it_f h7 hS
  refine Zk ?_
  refine Zq (Zr ?_)
  refine Zm ?_
  obtain ⟨b9, hS⟩ := gd_s hS
  refine VL.q (q_sub rfl rfl b9) (by decide) ?_
  cases hS
 replace hS := it_f h5 hS
 refine Zk ?_
 refine Zq (Zr ?_)
 refine Zm ?_
 obtain ⟨b13, hS⟩ := gd_s hS
 refine VL.q (q_rem rfl rfl b13) (by decide) ?_
 obtain ⟨b14, hS⟩ := gd_s hS
 refine VL.q (q_add rfl rfl b14) (by decide) ?_
 obtain ⟨b15, hS⟩ := gd_s hS
 refine VL.q (q_conv Tryz.underlying3 Tryz.underlying5 rfl (wu8_in b15)) (by decide) ?_
 obtain ⟨b16_15, hS⟩ := gd_s hS
 obtain ⟨u16_2, eu16_2, hS⟩ := lt_s hS
 refine VL.setv 15 rfl (congrArg (Value.int .u8) (u8_z b16_15 eu16_2)) ?_
 refine VL.lit (α := UInt8) (xs := [.tmp 15]) (vs := [.int .u8 (u16_2.toNat : Int)]) [u16_2] Tryz.underlying27 glit5 (by decide) rfl rfl rfl rfl (by decide) (fun _ _ _ _ => trivial) (by decide) (fun s16_1 hs16_1 => ?_) (by decide)
 replace hS := lt_to hs16_1 hS
 refine VL.q (q_b2s (s := s16_1) Tryz.underlying27 Tryz.underlying5 Tryz.underlying9 rfl) (by decide) ?_
 refine Za ?_
 refine Zl ?_
 refine VC.keep [0, 3] rfl ?_
 refine Zq (Zb ?_)
 refine VC.iter (S := Int × Str) (fun sg => (sg.1, sg.2)) (fun sg => [(0, i64 sg.1), (3, str sg.2)]) (fun sg => Mo.tt) (fun sg => Ow.emp) (n_0, s16_1.l) [0, 3] hS rfl ?_
 clear hS
 rintro ⟨n0_4, s3_5⟩ m1 y1 hS hK1
 show VC _ _ _ _ _ [(0, i64 n0_4), (3, str s3_5)] (Mo.and Mo.tt _) (Ow.emp)
 refine Zq (Zq (Zr ?_))
 refine Zm ?_
 refine VL.q (q_geq rfl rfl) (by decide) ?_
 refine Zl ?_
 refine VC.cond_dec rfl (fun h19 => ?_) (fun h19 => ?_)
 ·
  replace hS := it_t h19 hS
  refine Zk ?_
  refine Zb (Zq (Zr ?_))
  refine Zm ?_
  obtain ⟨b21, hS⟩ := gd_s hS
  refine VL.q (q_quo rfl rfl b21.1 (wi64_in b21.2)) (by decide) ?_
  refine Za ?_
  refine Zl ?_
  refine Zr ?_
  refine Zm ?_
  obtain ⟨b23, hS⟩ := gd_s hS
  refine VL.q (q_rem rfl rfl b23) (by decide) ?_
  obtain ⟨b24, hS⟩ := gd_s hS
  refine VL.q (q_add rfl rfl b24) (by decide) ?_
  obtain ⟨b25, hS⟩ := gd_s hS
  refine VL.q (q_conv Tryz.underlying3 Tryz.underlying5 rfl (wu8_in b25)) (by decide) ?_
  obtain ⟨b26_25, hS⟩ := gd_s hS
  obtain ⟨u26_7, eu26_7, hS⟩ := lt_s hS
  refine VL.setv 25 rfl (congrArg (Value.int .u8) (u8_z b26_25 eu26_7)) ?_
  refine VL.lit (α := UInt8) (xs := [.tmp 25]) (vs := [.int .u8 (u26_7.toNat : Int)]) [u26_7] Tryz.underlying27 glit5 (by decide) rfl rfl rfl rfl (by decide) (fun _ _ _ _ => trivial) (by decide) (fun s26_6 hs26_6 => ?_) (by decide)
  replace hS := lt_to hs26_6 hS
  refine VL.q (q_b2s (s := s26_6) Tryz.underlying27 Tryz.underlying5 Tryz.underlying9 rfl) (by decide) ?_
  refine Zm ?_
  obtain ⟨b29, hS⟩ := gd_s hS
  obtain ⟨y29_9, ey29_9, hS⟩ := lt_s hS
  refine VL.q (q_catE rfl rfl b29 ey29_9) (by decide) ?_
  refine Za ?_
  refine VL.rnd ((n0_4 / 10), y29_9) [0, 3] (fun _ _ h => h) (go2 hS hK1) rfl
 replace hS := it_f h19 hS
 replace hS := up2 hS hK1
 refine Zx ?_
 refine Zq (Zr ?_)
 refine Zm ?_
 refine Za ?_
 refine Zl ?_
 cases hS
 exact Ze
theorem rectoref3_Decimal_ct (n_0 : Int) {r : Str} (hS : Sh.rectoref3_Decimal n_0 = some r) :
 Ct Tryz.prog 133 [i64 n_0] Mo.tt (Ow.emp) (X := Unit) (fun _ => str r) (fun _ => True) (fun _ => Mo.tt) (fun _ => Ow.emp) := by
 refine Ct.of Tryz.func133 rfl (by kernel_rfl) Tryz.ntmps133 (by simp) fun c => ?_
 unfold Sh.rectoref3_Decimal at hS
 refine Zq (Zr ?_)
 refine Za ?_
 refine Zl ?_
 refine Zq (Zq (Zr ?_))
 refine Zm ?_
 refine VL.q (q_lss rfl rfl) (by decide) ?_
 refine Zl ?_
 refine VC.cond_dec rfl (fun h5 => ?_) (fun h5 => ?_)
 ·
  replace hS := it_t h5 hS
  refine Zq (Zq (Zr ?_))
  refine Zm ?_
  refine VL.q (q_eql rfl rfl) (by decide) ?_
  refine Zl ?_
  refine VC.cond_dec rfl (fun h7 => ?_) (fun h7 => ?_)
  ·
   replace hS := it_t h7 hS
   refine Zq (Zr ?_)
   refine Za ?_
   refine Zl ?_
   cases hS
   exact Ze
  replace hS := it_f h7 hS
  refine Zk ?_
  refine Zq (Zr ?_)
  refine Zm ?_
  obtain ⟨b9, hS⟩ := gd_s hS
  refine VL.q (q_sub rfl rfl b9) (by decide) ?_
  obtain ⟨y10_1, ey10_1, hS⟩ := bd_s hS
  refine VL.q (q_call (rectoref3_Decimal_r_ct (0 - n_0) ey10_1) rfl (fun _ _ => rfl)) (by decide) ?_
  obtain ⟨b11, hS⟩ := gd_s hS
  obtain ⟨y11_2, ey11_2, hS⟩ := lt_s hS
  refine VL.q (q_catE rfl rfl b11 ey11_2) (by decide) ?_
  refine Za ?_
  refine Zl ?_
  cases hS
  exact Ze
 replace hS := it_f h5 hS
 refine Zk ?_
 refine Zq (Zr ?_)
 refine Zm ?_
 obtain ⟨b13, hS⟩ := gd_s hS
 refine VL.q (q_rem rfl rfl b13) (by decide) ?_
 obtain ⟨b14, hS⟩ := gd_s hS
 refine VL.q (q_add rfl rfl b14) (by decide) ?_
 obtain ⟨b15, hS⟩ := gd_s hS
 refine VL.q (q_conv Tryz.underlying3 Tryz.underlying5 rfl (wu8_in b15)) (by decide) ?_
 obtain ⟨b16_15, hS⟩ := gd_s hS
 obtain ⟨u16_4, eu16_4, hS⟩ := lt_s hS
 refine VL.setv 15 rfl (congrArg (Value.int .u8) (u8_z b16_15 eu16_4)) ?_
 refine VL.lit (α := UInt8) (xs := [.tmp 15]) (vs := [.int .u8 (u16_4.toNat : Int)]) [u16_4] Tryz.underlying27 glit5 (by decide) rfl rfl rfl rfl (by decide) (fun _ _ _ _ => trivial) (by decide) (fun s16_3 hs16_3 => ?_) (by decide)
 replace hS := lt_to hs16_3 hS
 refine VL.q (q_b2s (s := s16_3) Tryz.underlying27 Tryz.underlying5 Tryz.underlying9 rfl) (by decide) ?_
 refine Za ?_
 refine Zl ?_
 refine VC.keep [0, 3] rfl ?_
 refine Zq (Zb ?_)
 refine VC.iter (S := Int × Str) (fun sg => (sg.1, sg.2)) (fun sg => [(0, i64 sg.1), (3, str sg.2)]) (fun sg => Mo.tt) (fun sg => Ow.emp) (n_0, s16_3.l) [0, 3] hS rfl ?_
 clear hS
 rintro ⟨n0_6, s3_7⟩ m1 y1 hS hK1
 show VC _ _ _ _ _ [(0, i64 n0_6), (3, str s3_7)] (Mo.and Mo.tt _) (Ow.emp)
 refine Zq (Zq (Zr ?_))
 refine Zm ?_
 refine VL.q (q_geq rfl rfl) (by decide) ?_
 refine Zl ?_
 refine VC.cond_dec rfl (fun h19 => ?_) (fun h19 => ?_)
 ·
  replace hS := it_t h19 hS
  refine Zk ?_
  refine Zb (Zq (Zr ?_))
  refine Zm ?_
  obtain ⟨b21, hS⟩ := gd_s hS
  refine VL.q (q_quo rfl rfl b21.1 (wi64_in b21.2)) (by decide) ?_
  refine Za ?_
  refine Zl ?_
  refine Zr ?_
  refine Zm ?_
  obtain ⟨b23, hS⟩ := gd_s hS
  refine VL.q (q_rem rfl rfl b23) (by decide) ?_
  obtain ⟨b24, hS⟩ := gd_s hS
  refine VL.q (q_add rfl rfl b24) (by decide) ?_
  obtain ⟨b25, hS⟩ := gd_s hS
  refine VL.q (q_conv Tryz.underlying3 Tryz.underlying5 rfl (wu8_in b25)) (by decide) ?_
  obtain ⟨b26_25, hS⟩ := gd_s hS
  obtain ⟨u26_9, eu26_9, hS⟩ := lt_s hS
  refine VL.setv 25 rfl (congrArg (Value.int .u8) (u8_z b26_25 eu26_9)) ?_
  refine VL.lit (α := UInt8) (xs := [.tmp 25]) (vs := [.int .u8 (u26_9.toNat : Int)]) [u26_9] Tryz.underlying27 glit5 (by decide) rfl rfl rfl rfl (by decide) (fun _ _ _ _ => trivial) (by decide) (fun s26_8 hs26_8 => ?_) (by decide)
  replace hS := lt_to hs26_8 hS
  refine VL.q (q_b2s (s := s26_8) Tryz.underlying27 Tryz.underlying5 Tryz.underlying9 rfl) (by decide) ?_
  refine Zm ?_
  obtain ⟨b29, hS⟩ := gd_s hS
  obtain ⟨y29_11, ey29_11, hS⟩ := lt_s hS
  refine VL.q (q_catE rfl rfl b29 ey29_11) (by decide) ?_
  refine Za ?_
  refine VL.rnd ((n0_6 / 10), y29_11) [0, 3] (fun _ _ h => h) (go2 hS hK1) rfl
 replace hS := it_f h19 hS
 replace hS := up2 hS hK1
 refine Zx ?_
 refine Zq (Zr ?_)
 refine Zm ?_
 refine Za ?_
 refine Zl ?_
 cases hS
 exact Ze
theorem rectoref3_Word_ct (e_0 : Int) {r : Str} (hS : Sh.rectoref3_Word e_0 = some r) :
 Ct Tryz.prog 134 [i64 e_0] Mo.tt (Ow.emp) (X := Unit) (fun _ => str r) (fun _ => True) (fun _ => Mo.tt) (fun _ => Ow.emp) := by
 refine Ct.of Tryz.func134 rfl (by kernel_rfl) Tryz.ntmps134 (by simp) fun c => ?_
 unfold Sh.rectoref3_Word at hS
 refine Zq (Zr ?_)
 refine Za ?_
 refine Zl ?_
 refine Zq (Zr ?_)
 refine VL.lit (α := Str) (xs := [.const (str [111, 107]), .const (str [97, 114, 103]), .const (str [102, 111, 114, 109]), .const (str [115, 104, 111, 114, 116]), .const (str [108, 111, 110, 103]), .const (str [110, 97, 109, 101]), .const (str [116, 119, 105, 99, 101]), .const (str [115, 116, 97, 116, 101]), .const (str [100, 105, 114, 116, 121]), .const (str [99, 111, 110, 102, 108, 105, 99, 116]), .const (str [115, 97, 109, 101]), .const (str [119, 97, 121]), .const (str [115, 117, 109]), .const (str [100, 111, 119, 110]), .const (str [113, 117, 111, 116, 97])]) (vs := [str [111, 107], str [97, 114, 103], str [102, 111, 114, 109], str [115, 104, 111, 114, 116], str [108, 111, 110, 103], str [110, 97, 109, 101], str [116, 119, 105, 99, 101], str [115, 116, 97, 116, 101], str [100, 105, 114, 116, 121], str [99, 111, 110, 102, 108, 105, 99, 116], str [115, 97, 109, 101], str [119, 97, 121], str [115, 117, 109], str [100, 111, 119, 110], str [113, 117, 111, 116, 97]]) [[111, 107], [97, 114, 103], [102, 111, 114, 109], [115, 104, 111, 114, 116], [108, 111, 110, 103], [110, 97, 109, 101], [116, 119, 105, 99, 101], [115, 116, 97, 116, 101], [100, 105, 114, 116, 121], [99, 111, 110, 102, 108, 105, 99, 116], [115, 97, 109, 101], [119, 97, 121], [115, 117, 109], [100, 111, 119, 110], [113, 117, 111, 116, 97]] Tryz.underlying82 glit9 (by decide) rfl rfl rfl rfl (by decide) (fun _ _ _ _ => trivial) (by decide) (fun s4_1 hs4_1 => ?_) (by decide)
 replace hS := lt_to hs4_1 hS
 refine Za ?_
 refine Zl ?_
 refine Zq ?_
 refine VC.cutJ (S := Bool) (fun (x12_3 : Bool) => x12_3) (fun (x12_3 : Bool) => [(0, i64 e_0), (3, s4_1.val), (12, .bool x12_3)]) (fun (x12_3 : Bool) => Mo.tt) (fun (x12_3 : Bool) => Ow.emp) hS ?_ ?_
 ·
  clear hS
  intro k4 hS
  refine Zr ?_
  refine Zm ?_
  refine VL.q (q_lss rfl rfl) (by decide) ?_
  refine Zm ?_
  refine VL.split_dec 7 rfl (fun h7 => ?_) (fun h7 => ?_)
  ·
   replace hS := it_t h7 hS
   refine Zn ?_
   refine Zn ?_
   refine Zn ?_
   refine Zn ?_
   refine Zt ?_
   refine VL.mt true [0, 3, 12] (fun _ _ h => h) hS rfl
  replace hS := it_f h7 hS
  refine Zg ?_
  refine Zg ?_
  refine VL.gy rfl rfl (q_ln (s := s4_1) Tryz.underlying82 rfl) (by decide) ?_
  refine VL.gy rfl rfl (q_geq rfl rfl) (by decide) ?_
  refine Zf ?_
  refine VL.mt (decide ((s4_1.l.length : Int) ≤ e_0)) [0, 3, 12] (fun _ _ h => h) hS rfl
 clear hS
 rintro x12_3 hS
 show VC _ _ _ _ _ [(0, i64 e_0), (3, s4_1.val), (12, .bool x12_3)] (Mo.and Mo.tt _) (Ow.emp)
 refine VC.cond rfl (fun h12 => ?_) (fun h12 => ?_)
 ·
  replace hS := it_t h12 hS
  refine Zq (Zr ?_)
  refine Za ?_
  refine Zl ?_
  cases hS
  exact Ze
 replace hS := it_b h12 hS
 refine Zk ?_
 refine Zq (Zr ?_)
 refine Zm ?_
 refine Zm ?_
 obtain ⟨z15_5, nz15_5, hz15_5, hS⟩ := at_s hS
 refine VL.q (q_ixm (s := s4_1) Tryz.underlying82 gsz9 rfl rfl nz15_5 (lt_of_get nz15_5 hz15_5)) (by decide) ?_
 refine VL.q (q_el (s := s4_1) gone9 rfl hz15_5 rfl) (by decide) ?_
 refine Za ?_
 refine Zl ?_
 cases hS
 exact Ze
theorem rectoref3_Words_ct (w_0 : Rectoref3Wrong) {r : Str} (hS : Sh.rectoref3_Words w_0.pl = some r) :
 Ct Tryz.prog 67 [.agg #[w_0.parts.val, i64 w_0.err]] w_0.parts.ok (Ow.emp) (X := Unit) (fun _ => str r) (fun _ => True) (fun _ => Mo.tt) (fun _ => Ow.emp) := by
 refine Ct.of Tryz.func67 rfl (by kernel_rfl) Tryz.ntmps67 (by simp) fun c => ?_
 unfold Sh.rectoref3_Words at hS
 refine Zq (Zr ?_)
 refine VL.box (cs := [w_0.parts.val, i64 w_0.err]) rfl rfl (by decide) fun b1_1 => ?_
 refine Za ?_
 refine Zl ?_
 refine Zq (Zr ?_)
 refine Za ?_
 refine Zl ?_
 refine Zq (Zq (Zr ?_))
 refine Za ?_
 refine Zl ?_
 refine Zb ?_
 refine VC.iter (S := Str × Int) (fun sg => (sg.1, sg.2)) (fun sg => [(1, ptr b1_1 0), (3, str sg.1), (4, i64 sg.2)]) (fun sg => Mo.tt) (fun sg => Ow.star (Blk b1_1 [w_0.parts.val, i64 w_0.err] 54) (Ow.emp)) ([], 0) [1, 3, 4] hS rfl ?_
 clear hS
 rintro ⟨s3_2, i4_3⟩ m1 y1 hS hK1
 show VC _ _ _ _ _ [(1, ptr b1_1 0), (3, str s3_2), (4, i64 i4_3)] (Mo.and Mo.tt _) (Ow.star (Blk b1_1 [w_0.parts.val, i64 w_0.err] 54) (Ow.emp))
 refine Zq (Zq (Zr ?_))
 refine Zm ?_
 refine VL.q (q_field gfa54_0 rfl) (by decide) ?_
 refine VL.q (q_fe gone52 rfl rfl) (by decide) ?_
 refine VL.q (q_ln (s := w_0.parts) Tryz.underlying52 rfl) (by decide) ?_
 refine VL.q (q_lss rfl rfl) (by decide) ?_
 refine Zl ?_
 refine VC.cond_dec rfl (fun h9 => ?_) (fun h9 => ?_)
 ·
  replace hS := it_t h9 hS
  refine Zk ?_
  refine Zq (Zb ?_)
  refine VC.draw ((List.range 19).map fun k => (k, true)) mixed (by kernel_rfl) (by kernel_rfl) (by kernel_rfl) ?_
  refine VD.q rfl (q_move rfl) (by decide) ?_
  refine VD.q rfl (q_field gfa54_0 rfl) (by decide) ?_
  refine VD.q rfl (q_fe gone52 rfl rfl) (by decide) ?_
  refine VD.q rfl (q_move rfl) (by decide) ?_
  obtain ⟨z16_4, nz16_4, hz16_4, hS⟩ := at_s hS
  refine VD.q rfl (q_ixm (s := w_0.parts) Tryz.underlying52 gsz137 rfl rfl nz16_4 (lt_of_get nz16_4 hz16_4)) (by decide) ?_
  refine VD.q rfl (q_field gfa137_0 rfl) (by decide) ?_
  refine VD.q rfl (q_elf (s := w_0.parts) gone9 rfl hz16_4 rfl) (by decide) ?_
  obtain ⟨b19, hS⟩ := gd_s hS
  obtain ⟨y19_5, ey19_5, hS⟩ := lt_s hS
  refine VD.q rfl (q_catE rfl rfl b19 ey19_5) (by decide) ?_
  obtain ⟨b20, hS⟩ := gd_s hS
  obtain ⟨y20_6, ey20_6, hS⟩ := lt_s hS
  refine VD.q rfl (q_catE rfl rfl b20 ey20_6) (by decide) ?_
  refine VD.q rfl (q_field gfa54_0 rfl) (by decide) ?_
  refine VD.q rfl (q_fe gone52 rfl rfl) (by decide) ?_
  refine VD.q rfl (q_move rfl) (by decide) ?_
  obtain ⟨z24_7, nz24_7, hz24_7, hS⟩ := at_s hS
  refine VD.q rfl (q_ixm (s := w_0.parts) Tryz.underlying52 gsz137 rfl rfl nz24_7 (lt_of_get nz24_7 hz24_7)) (by decide) ?_
  refine VD.q rfl (q_field gfa137_1 rfl) (by decide) ?_
  refine VD.q rfl (q_elf (s := w_0.parts) gone3 rfl hz24_7 rfl) (by decide) ?_
  obtain ⟨y27_8, ey27_8, hS⟩ := bd_s hS
  refine VD.q rfl (q_call (rectoref3_Decimal_ct z24_7.at_ ey27_8) rfl (fun _ _ => rfl)) (by decide) ?_
  obtain ⟨b28, hS⟩ := gd_s hS
  obtain ⟨y28_9, ey28_9, hS⟩ := lt_s hS
  refine VD.q rfl (q_catE rfl rfl b28 ey28_9) (by decide) ?_
  obtain ⟨b29, hS⟩ := gd_s hS
  obtain ⟨y29_10, ey29_10, hS⟩ := lt_s hS
  refine VD.q rfl (q_catE rfl rfl b29 ey29_10) (by decide) ?_
  refine VD.q rfl (q_assign rfl) (by decide) ?_
  refine VD.to (fun _ _ h => h) ?_
  refine VC.keep [1, 3, 4] rfl ?_
  refine Zr ?_
  refine Zm ?_
  obtain ⟨b11, hS⟩ := gd_s hS
  refine VL.q (q_add rfl rfl b11) (by decide) ?_
  refine Za ?_
  refine VL.rnd (y29_10, (i4_3 + 1)) [1, 3, 4] (fun _ _ h => h) (go2 hS hK1) rfl
 replace hS := it_f h9 hS
 replace hS := up2 hS hK1
 refine Zx ?_
 refine Zq (Zr ?_)
 refine Zm ?_
 refine VL.q (q_field gfa54_1 rfl) (by decide) ?_
 refine VL.q (q_fe gone3 rfl rfl) (by decide) ?_
 obtain ⟨y33_11, ey33_11, hS⟩ := bd_s hS
 refine VL.q (q_call (rectoref3_Word_ct w_0.err ey33_11) rfl (fun _ _ => rfl)) (by decide) ?_
 obtain ⟨b34, hS⟩ := gd_s hS
 obtain ⟨y34_12, ey34_12, hS⟩ := lt_s hS
 refine VL.q (q_catE rfl rfl b34 ey34_12) (by decide) ?_
 refine Za ?_
 refine Zl ?_
 refine VC.keep [2] rfl ?_
 cases hS
 exact Ze
theorem rectolaw2_Tells_ct (err_0 : Er) (w_1 : Rectoref3Wrong) {r : Bool} (hS : Sh.rectolaw2_Tells err_0.pl w_1.pl = some r) :
 Ct Tryz.prog 20 [err_0.val, .agg #[w_1.parts.val, i64 w_1.err]] (err_0.ok.and (w_1.parts.ok.and Gl)) (Ow.emp) (X := Unit) (fun _ => .bool r) (fun _ => True) (fun _ => Mo.tt) (fun _ => Ow.emp) := by
 refine Ct.of Tryz.func20 rfl (by kernel_rfl) Tryz.ntmps20 (by simp) fun c => ?_
 unfold Sh.rectolaw2_Tells at hS
 refine Zq (Zr ?_)
 refine VL.box (cs := [w_1.parts.val, i64 w_1.err]) rfl rfl (by decide) fun b3_1 => ?_
 refine Za ?_
 refine Zl ?_
 refine Zq (Zq (Zr ?_))
 refine VL.q (q_field gfa54_1 rfl) (by decide) ?_
 refine VL.q (q_fe gone3 rfl rfl) (by decide) ?_
 refine VL.q (q_eql rfl rfl) (by decide) ?_
 refine Zl ?_
 refine VC.cond_dec rfl (fun h8 => ?_) (fun h8 => ?_)
 ·
  replace hS := it_t h8 hS
  refine Zq (Zr ?_)
  refine Zm ?_
  refine VL.q (q_ereq Tryz.underlying29 rfl) (by decide) ?_
  refine Za ?_
  refine Zl ?_
  cases hS
  exact Ze
 replace hS := it_f h8 hS
 refine Zk ?_
 refine Zq ?_
 refine VC.cutJ (S := Bool) (fun (x27_2 : Bool) => x27_2) (fun (x27_2 : Bool) => [(0, err_0.val), (3, ptr b3_1 0), (27, .bool x27_2)]) (fun (x27_2 : Bool) => Mo.tt) (fun (x27_2 : Bool) => Ow.star (Blk b3_1 [w_1.parts.val, i64 w_1.err] 54) (Ow.emp)) hS ?_ ?_
 ·
  clear hS
  intro k3 hS
  refine VC.draw ((List.range 17).map fun k => (k, true)) mixed (by kernel_rfl) (by kernel_rfl) (by kernel_rfl) ?_
  refine VD.q rfl (q_move rfl) (by decide) ?_
  refine VD.q rfl (q_ereq Tryz.underlying29 rfl) (by decide) ?_
  refine VD.q rfl (q_move rfl) (by decide) ?_
  refine VD.split_dec 13 rfl (fun h13 => ?_) (fun h13 => ?_)
  ·
   replace hS := it_t h13 hS
   refine Zd ?_
   refine Zd ?_
   refine Zd ?_
   refine Zd ?_
   refine Zd ?_
   refine VD.q rfl (q_pick_t rfl rfl) (by decide) ?_
   refine VD.q rfl (q_move rfl) (by decide) ?_
   refine Zd ?_
   refine Zd ?_
   refine Zd ?_
   refine Zd ?_
   refine Zd ?_
   refine Zd ?_
   refine VD.q rfl (q_pick_t rfl rfl) (by decide) ?_
   refine VD.mt true [0, 3, 27] (fun _ _ h => h) hS rfl
  replace hS := it_f h13 hS
  refine VD.gy rfl rfl rfl (q_move rfl) (by decide) ?_
  obtain ⟨y15_4, ey15_4, hS⟩ := bd_s hS
  refine VD.gy rfl rfl rfl (q_say rfl (text_says err_0 ey15_4)) (by decide) ?_
  refine VD.gy rfl rfl rfl (q_fes gagg54 rfl rfl) (by decide) ?_
  obtain ⟨y17_5, ey17_5, hS⟩ := bd_s hS
  refine VD.gy rfl rfl rfl (q_call (rectoref3_Words_ct w_1 ey17_5) rfl (fun _ _ => rfl)) (by decide) ?_
  refine VD.gy rfl rfl rfl (q_sne rfl rfl) (by decide) ?_
  refine VD.q rfl (q_pick_f rfl rfl) (by decide) ?_
  refine VD.q rfl (q_move rfl) (by decide) ?_
  refine VD.split_ndec 20 rfl (fun h20 => ?_) (fun h20 => ?_)
  ·
   replace hS := it_f h20 hS
   refine Zd ?_
   refine Zd ?_
   refine Zd ?_
   refine Zd ?_
   refine Zd ?_
   refine Zd ?_
   refine VD.q rfl (q_pick_t rfl rfl) (by decide) ?_
   refine VD.mt true [0, 3, 27] (fun _ _ h => h) hS rfl
  replace hS := it_t h20 hS
  refine VD.gy rfl rfl rfl (q_move rfl) (by decide) ?_
  refine VD.gy rfl rfl rfl (q_field gfa54_1 rfl) (by decide) ?_
  refine VD.gy rfl rfl rfl (q_fe gone3 rfl rfl) (by decide) ?_
  refine VD.gy rfl rfl rfl (q_mkif Tryz.underlying115 (fun _ h => by cases h) rfl) (by decide) ?_
  refine VD.gy rfl rfl rfl (q_call (is_ct err_0 w_1.err) rfl (fun _ _ => rfl)) (by decide) ?_
  refine VD.gy rfl rfl rfl (q_not rfl) (by decide) ?_
  refine VD.q rfl (q_pick_f rfl rfl) (by decide) ?_
  refine VD.mt (!decide (endNo err_0.pl = some w_1.err)) [0, 3, 27] (fun _ _ h => h) hS rfl
 clear hS
 rintro x27_2 hS
 show VC _ _ _ _ _ [(0, err_0.val), (3, ptr b3_1 0), (27, .bool x27_2)] (Mo.and Mo.tt _) (Ow.star (Blk b3_1 [w_1.parts.val, i64 w_1.err] 54) (Ow.emp))
 refine VC.cond rfl (fun h27 => ?_) (fun h27 => ?_)
 ·
  replace hS := it_t h27 hS
  refine Zq (Zr ?_)
  refine Za ?_
  refine Zl ?_
  cases hS
  exact Ze
 replace hS := it_b h27 hS
 refine Zk ?_
 refine Zq (Zq (Zr ?_))
 refine VL.q (q_field gfa54_0 rfl) (by decide) ?_
 refine VL.q (q_fe gone52 rfl rfl) (by decide) ?_
 refine VL.q (q_ln (s := w_1.parts) Tryz.underlying52 rfl) (by decide) ?_
 refine VL.q (q_eql rfl rfl) (by decide) ?_
 refine Zl ?_
 refine VC.cond_dec rfl (fun h31 => ?_) (fun h31 => ?_)
 ·
  replace hS := it_t h31 hS
  refine Zq (Zr ?_)
  refine Za ?_
  refine Zl ?_
  cases hS
  exact Ze
 replace hS := it_f h31 hS
 refine Zk ?_
 refine Zq (Zr ?_)
 refine VL.alloc (cs := [.pointer none]) (by kernel_rfl) (by decide) fun b5_6 => ?_
 refine Zl ?_
 refine Zq (Zq (Zr ?_))
 refine Zm ?_
 refine VL.q (q_mkif Tryz.underlying135 (fun _ h => by cases h) rfl) (by decide) ?_
 rcases err_0 with _ | _ | ⟨eb7, ep7, ea7, ez7⟩
 ·
  exact absurd hS (by simp [Er.pl])
 ·
  exact absurd hS (by simp [Er.pl])
 dsimp only [Er.pl] at hS
 refine VL.addM (Cells eb7 0 [str ep7, i64 ea7, ez7.val]) (fun _ m => (InM.out (X := (Er.fault eb7 ep7 ea7 ez7).ok) _ m).1) ?_
 refine VL.addM ez7.ok (fun _ m => (InM.out (X := (Er.fault eb7 ep7 ea7 ez7).ok) _ m.2).2) ?_
 refine VL.callO (As.as_ct eb7 b5_6) rfl (by decide) ?_
 rintro _ _
 refine VL.q (q_not rfl) (by decide) ?_
 refine Zm ?_
 refine VL.gy rfl rfl (q_fe gone114 rfl rfl) (by decide) ?_
 refine VL.gy rfl rfl (q_peqn Tryz.underlying114 rfl) (by decide) ?_
 refine Zf ?_
 refine Zl ?_
 refine VC.keep [3, 5, 39] rfl ?_
 refine VC.cond_f rfl ?_
 refine Zk ?_
 refine Zq ?_
 refine VC.draw ((List.range 23).map fun k => (k, true)) mixed (by kernel_rfl) (by kernel_rfl) (by kernel_rfl) ?_
 refine VD.q rfl (q_fe gone114 rfl rfl) (by decide) ?_
 refine VD.q rfl (q_nilCheck rfl) (by decide) ?_
 refine VD.q rfl (q_field gfa117_0 rfl) (by decide) ?_
 refine VD.q rfl (q_fm gone9 rfl rfl) (by decide) ?_
 refine VD.q rfl (q_field gfa54_0 rfl) (by decide) ?_
 refine VD.q rfl (q_fe gone52 rfl rfl) (by decide) ?_
 obtain ⟨z46_8, nz46_8, hz46_8, hS⟩ := at_s hS
 refine VD.q rfl (q_ixm (s := w_1.parts) Tryz.underlying52 gsz137 rfl rfl nz46_8 (lt_of_get nz46_8 hz46_8)) (by decide) ?_
 refine VD.q rfl (q_field gfa137_0 rfl) (by decide) ?_
 refine VD.q rfl (q_elf (s := w_1.parts) gone9 rfl hz46_8 rfl) (by decide) ?_
 refine VD.q rfl (q_seq rfl rfl) (by decide) ?_
 refine VD.q rfl (q_move rfl) (by decide) ?_
 refine VD.split_dec 50 rfl (fun h50 => ?_) (fun h50 => ?_)
 ·
  replace hS := it_t h50 hS
  refine VD.gy rfl rfl rfl (q_fe gone114 rfl rfl) (by decide) ?_
  refine VD.gy rfl rfl rfl (q_nilCheck rfl) (by decide) ?_
  refine VD.gy rfl rfl rfl (q_field gfa117_1 rfl) (by decide) ?_
  refine VD.gy rfl rfl rfl (q_fm gone3 rfl rfl) (by decide) ?_
  refine VD.gy rfl rfl rfl (q_field gfa54_0 rfl) (by decide) ?_
  refine VD.gy rfl rfl rfl (q_fe gone52 rfl rfl) (by decide) ?_
  obtain ⟨z57_9, nz57_9, hz57_9, hS⟩ := at_s hS
  refine VD.gy rfl rfl rfl (q_ixm (s := w_1.parts) Tryz.underlying52 gsz137 rfl rfl nz57_9 (lt_of_get nz57_9 hz57_9)) (by decide) ?_
  refine VD.gy rfl rfl rfl (q_field gfa137_1 rfl) (by decide) ?_
  refine VD.gy rfl rfl rfl (q_elf (s := w_1.parts) gone3 rfl hz57_9 rfl) (by decide) ?_
  refine VD.gy rfl rfl rfl (q_eql rfl rfl) (by decide) ?_
  refine VD.q rfl (q_pick_t rfl rfl) (by decide) ?_
  refine VD.q rfl (q_assign rfl) (by decide) ?_
  refine VD.to (fun _ _ h => h) ?_
  refine VC.keep [4] rfl ?_
  cases hS
  exact Ze
 replace hS := it_f h50 hS
 refine Zd ?_
 refine Zd ?_
 refine Zd ?_
 refine Zd ?_
 refine Zd ?_
 refine Zd ?_
 refine Zd ?_
 refine Zd ?_
 refine Zd ?_
 refine Zd ?_
 refine VD.q rfl (q_pick_f rfl rfl) (by decide) ?_
 refine VD.q rfl (q_assign rfl) (by decide) ?_
 refine VD.to (fun _ _ h => h) ?_
 refine VC.keep [4] rfl ?_
 cases hS
 exact Ze
theorem rectolaw14_Rises_ct (r_0 : Sv FilesFile) {r : Bool} (hS : Sh.rectolaw14_Rises r_0.l = some r) :
 Ct Tryz.prog 22 [r_0.val] r_0.ok (Ow.emp) (X := Unit) (fun _ => .bool r) (fun _ => True) (fun _ => Mo.tt) (fun _ => Ow.emp) := by
 refine Ct.of Tryz.func22 rfl (by kernel_rfl) Tryz.ntmps22 (by simp) fun c => ?_
 unfold Sh.rectolaw14_Rises at hS
 refine Zq (Zr ?_)
 refine Za ?_
 refine Zl ?_
 refine Zq (Zq (Zr ?_))
 refine Za ?_
 refine Zl ?_
 refine Zb ?_
 refine VC.iter (S := Int) (fun (i3_1 : Int) => i3_1) (fun (i3_1 : Int) => [(0, r_0.val), (3, i64 i3_1)]) (fun (i3_1 : Int) => Mo.tt) (fun (i3_1 : Int) => Ow.emp) 1 [0, 3] hS rfl ?_
 clear hS
 rintro i3_1 m1 y1 hS hK1
 show VC _ _ _ _ _ [(0, r_0.val), (3, i64 i3_1)] (Mo.and Mo.tt _) (Ow.emp)
 refine Zq (Zq (Zr ?_))
 refine Zm ?_
 refine Zm ?_
 refine VL.q (q_ln (s := r_0) Tryz.underlying38 rfl) (by decide) ?_
 refine VL.q (q_lss rfl rfl) (by decide) ?_
 refine Zl ?_
 refine VC.cond_dec rfl (fun h7 => ?_) (fun h7 => ?_)
 ·
  replace hS := it_t h7 hS
  refine Zk ?_
  refine Zq (Zb (Zq ?_))
  refine VC.draw ((List.range 12).map fun k => (k, true)) mixed (by kernel_rfl) (by kernel_rfl) (by kernel_rfl) ?_
  refine VD.q rfl (q_move rfl) (by decide) ?_
  refine VD.q rfl (q_move rfl) (by decide) ?_
  obtain ⟨b12, hS⟩ := gd_s hS
  refine VD.q rfl (q_sub rfl rfl b12) (by decide) ?_
  obtain ⟨z13_2, nz13_2, hz13_2, hS⟩ := at_s hS
  refine VD.q rfl (q_ixm (s := r_0) Tryz.underlying38 gsz42 rfl rfl nz13_2 (lt_of_get nz13_2 hz13_2)) (by decide) ?_
  refine VD.q rfl (q_field gfa42_0 rfl) (by decide) ?_
  refine VD.q rfl (q_elf (s := r_0) gone9 rfl hz13_2 rfl) (by decide) ?_
  refine VD.q rfl (q_move rfl) (by decide) ?_
  refine VD.q rfl (q_move rfl) (by decide) ?_
  obtain ⟨z18_3, nz18_3, hz18_3, hS⟩ := at_s hS
  refine VD.q rfl (q_ixm (s := r_0) Tryz.underlying38 gsz42 rfl rfl nz18_3 (lt_of_get nz18_3 hz18_3)) (by decide) ?_
  refine VD.q rfl (q_field gfa42_0 rfl) (by decide) ?_
  refine VD.q rfl (q_elf (s := r_0) gone9 rfl hz18_3 rfl) (by decide) ?_
  refine VD.q rfl (q_sgeq rfl rfl) (by decide) ?_
  refine VD.to (fun _ _ h => h) ?_
  refine VC.keep [0, 3, 21] rfl ?_
  refine VC.cond rfl (fun h21 => ?_) (fun h21 => ?_)
  ·
   replace hS := it_t h21 hS
   refine Zq (Zr ?_)
   refine Za ?_
   refine Zl ?_
   replace hS := up2 hS hK1
   cases hS
   exact Ze
  replace hS := it_b h21 hS
  refine Zk ?_
  refine Zr ?_
  refine Zm ?_
  obtain ⟨b9, hS⟩ := gd_s hS
  refine VL.q (q_add rfl rfl b9) (by decide) ?_
  refine Za ?_
  refine VL.rnd (i3_1 + 1) [0, 3] (fun _ _ h => h) (go2 hS hK1) rfl
 replace hS := it_f h7 hS
 replace hS := up2 hS hK1
 refine Zx ?_
 refine Zq (Zr ?_)
 refine Za ?_
 refine Zl ?_
 cases hS
 exact Ze
theorem rectoref14_Get_ct (r_0 : Sv Rectoref14File) (p_1 : Str) {r : Rectoref14File × Bool} (hS : Sh.rectoref14_Get r_0.l p_1 = some r) :
 Ct Tryz.prog 24 [r_0.val, str p_1] r_0.ok (Ow.emp) (X := Unit) (fun _ => .tuple #[.agg #[str r.1.path, i64 r.1.mode, str r.1.data], .bool r.2]) (fun _ => True) (fun _ => Mo.tt) (fun _ => Ow.emp) := by
 refine Ct.of Tryz.func24 rfl (by kernel_rfl) Tryz.ntmps24 (by simp) fun c => ?_
 unfold Sh.rectoref14_Get at hS
 refine Zq (Zr ?_)
 refine VL.alloc (cs := [str [], i64 0, str []]) (by kernel_rfl) (by decide) fun b4_1 => ?_
 refine Za ?_
 refine Zl ?_
 refine Zq (Zq (Zr ?_))
 refine Za ?_
 refine Zl ?_
 refine Zb ?_
 refine VC.iter (S := Int) (fun (i6_2 : Int) => i6_2) (fun (i6_2 : Int) => [(0, r_0.val), (1, str p_1), (4, ptr b4_1 0), (6, i64 i6_2)]) (fun (i6_2 : Int) => Mo.tt) (fun (i6_2 : Int) => Ow.star (Blk b4_1 [str [], i64 0, str []] 45) (Ow.emp)) 0 [0, 1, 4, 6] hS rfl ?_
 clear hS
 rintro i6_2 m1 y1 hS hK1
 show VC _ _ _ _ _ [(0, r_0.val), (1, str p_1), (4, ptr b4_1 0), (6, i64 i6_2)] (Mo.and Mo.tt _) (Ow.star (Blk b4_1 [str [], i64 0, str []] 45) (Ow.emp))
 refine Zq (Zq (Zr ?_))
 refine Zm ?_
 refine Zm ?_
 refine VL.q (q_ln (s := r_0) Tryz.underlying48 rfl) (by decide) ?_
 refine VL.q (q_lss rfl rfl) (by decide) ?_
 refine Zl ?_
 refine VC.cond_dec rfl (fun h10 => ?_) (fun h10 => ?_)
 ·
  replace hS := it_t h10 hS
  refine Zk ?_
  refine Zq (Zb (Zq (Zr ?_)))
  refine Zm ?_
  refine Zm ?_
  obtain ⟨z15_3, nz15_3, hz15_3, hS⟩ := at_s hS
  refine VL.q (q_ixm (s := r_0) Tryz.underlying48 gsz45 rfl rfl nz15_3 (lt_of_get nz15_3 hz15_3)) (by decide) ?_
  refine VL.q (q_field gfa45_0 rfl) (by decide) ?_
  refine VL.q (q_elf (s := r_0) gone9 rfl hz15_3 rfl) (by decide) ?_
  refine Zm ?_
  refine Zs ?_
  refine Zl ?_
  refine VC.keep [0, 1, 4, 6, 19] rfl ?_
  refine VC.cond_dec rfl (fun h19 => ?_) (fun h19 => ?_)
  ·
   replace hS := it_t h19 hS
   refine Zq (Zr ?_)
   refine Zm ?_
   refine Zm ?_
   obtain ⟨z22_4, nz22_4, hz22_4, hS⟩ := at_s hS
   refine VL.q (q_ixm (s := r_0) Tryz.underlying48 gsz45 rfl rfl nz22_4 (lt_of_get nz22_4 hz22_4)) (by decide) ?_
   refine VL.q (q_els (s := r_0) gagg45 rfl rfl hz22_4) (by decide) ?_
   refine VL.store (vc := [str z22_4.path, i64 z22_4.mode, str z22_4.data]) (cs' := [str z22_4.path, i64 z22_4.mode, str z22_4.data]) rfl rfl rfl gsz45 rfl rfl (Nat.le_of_ble_eq_true rfl) rfl ?_
   refine Za ?_
   refine Zl ?_
   replace hS := up2 hS hK1
   cases hS
   exact VC.ret (finG (vs := [.agg #[str z22_4.path, i64 z22_4.mode, str z22_4.data], .bool true]) (.inr rfl) rfl (RVs.cell gagg45 rfl rfl Rd.blk (RVs.tmp rfl (RVs.nil))) () rfl trivial (by (try dsimp only); exact InM.out) (fun _ _ => trivial))
  replace hS := it_f h19 hS
  refine Zk ?_
  refine Zr ?_
  refine Zm ?_
  obtain ⟨b12, hS⟩ := gd_s hS
  refine VL.q (q_add rfl rfl b12) (by decide) ?_
  refine Za ?_
  refine VL.rnd (i6_2 + 1) [0, 1, 4, 6] (fun _ _ h => h) (go2 hS hK1) rfl
 replace hS := it_f h10 hS
 replace hS := up2 hS hK1
 refine Zx ?_
 refine Zq (Zr ?_)
 refine VL.q (q_build (vs := []) (cs := #[str [], i64 0, str []]) rfl (by kernel_rfl)) (by decide) ?_
 refine VL.store (vc := [str [], i64 0, str []]) (cs' := [str [], i64 0, str []]) rfl rfl rfl gsz45 rfl rfl (Nat.le_of_ble_eq_true rfl) rfl ?_
 refine Za ?_
 refine Zl ?_
 cases hS
 exact VC.ret (finG (vs := [.agg #[str [], i64 0, str []], .bool false]) (.inr rfl) rfl (RVs.cell gagg45 rfl rfl Rd.blk (RVs.tmp rfl (RVs.nil))) () rfl trivial (by (try dsimp only); exact InM.out) (fun _ _ => trivial))
theorem rectoref14_Put_ct (r_0 : Sv Rectoref14File) (f_1 : Rectoref14File) {r : List Rectoref14File} (hS : Sh.rectoref14_Put r_0.l f_1 = some r) :
 Ct Tryz.prog 27 [r_0.val, .agg #[str f_1.path, i64 f_1.mode, str f_1.data]] r_0.ok (Ow.emp) (X := Sv Rectoref14File) (fun x => x.val) (fun x => r = x.l) (fun x => Mo.tt) (fun x => Sv.own x 45) := by
 refine Ct.of Tryz.func27 rfl (by kernel_rfl) Tryz.ntmps27 (by simp) fun c => ?_
 unfold Sh.rectoref14_Put at hS
 refine Zq (Zr ?_)
 refine VL.box (cs := [str f_1.path, i64 f_1.mode, str f_1.data]) rfl rfl (by decide) fun b3_1 => ?_
 refine Za ?_
 refine Zl ?_
 refine Zq (Zr ?_)
 refine Za ?_
 refine Zl ?_
 refine Zq (Zr ?_)
 refine Za ?_
 refine Zl ?_
 refine Zq (Zq (Zr ?_))
 refine Za ?_
 refine Zl ?_
 refine Zb ?_
 refine VC.nilO (⟨none, 0, []⟩ : Sv Rectoref14File) 45 ⟨rfl, rfl⟩ ?_
 refine VC.iter (S := Sv Rectoref14File × Bool × Int) (fun sg => (sg.1.l, sg.2.1, sg.2.2)) (fun sg => [(0, r_0.val), (3, ptr b3_1 0), (5, sg.1.val), (6, .bool sg.2.1), (7, i64 sg.2.2)]) (fun sg => Mo.tt) (fun sg => Ow.star (Blk b3_1 [str f_1.path, i64 f_1.mode, str f_1.data] 45) (Ow.star (Sv.own sg.1 45) (Ow.emp))) (⟨none, 0, []⟩, false, 0) [0, 3, 5, 6, 7] hS rfl ?_
 clear hS
 rintro ⟨out5_2, put6_3, i7_4⟩ m1 y1 hS hK1
 show VC _ _ _ _ _ [(0, r_0.val), (3, ptr b3_1 0), (5, out5_2.val), (6, .bool put6_3), (7, i64 i7_4)] (Mo.and Mo.tt _) (Ow.star (Blk b3_1 [str f_1.path, i64 f_1.mode, str f_1.data] 45) (Ow.star (Sv.own out5_2 45) (Ow.emp)))
 refine Zq (Zq (Zr ?_))
 refine Zm ?_
 refine Zm ?_
 refine VL.q (q_ln (s := r_0) Tryz.underlying48 rfl) (by decide) ?_
 refine VL.q (q_lss rfl rfl) (by decide) ?_
 refine Zl ?_
 refine VC.cond_dec rfl (fun h11 => ?_) (fun h11 => ?_)
 ·
  replace hS := it_t h11 hS
  refine Zk ?_
  refine VC.cutJ (S := Sv Rectoref14File × Bool) (fun sg => (sg.1.l, sg.2)) (fun sg => [(0, r_0.val), (3, ptr b3_1 0), (5, sg.1.val), (6, .bool sg.2), (7, i64 i7_4)]) (fun sg => Mo.tt) (fun sg => Ow.star (Blk b3_1 [str f_1.path, i64 f_1.mode, str f_1.data] 45) (Ow.star (Sv.own sg.1 45) (Ow.emp))) hS ?_ ?_
  ·
   clear hS
   intro k7 hS
   refine Zb ?_
   refine VC.cutJ (S := Sv Rectoref14File × Bool) (fun sg => (sg.1.l, sg.2)) (fun sg => [(0, r_0.val), (3, ptr b3_1 0), (5, sg.1.val), (6, .bool sg.2), (7, i64 i7_4)]) (fun sg => Mo.tt) (fun sg => Ow.star (Blk b3_1 [str f_1.path, i64 f_1.mode, str f_1.data] 45) (Ow.star (Sv.own sg.1 45) (Ow.emp))) hS ?_ ?_
   ·
    clear hS
    intro k10 hS
    refine VC.cutJ (S := Bool) (fun (x25_11 : Bool) => x25_11) (fun (x25_11 : Bool) => [(0, r_0.val), (3, ptr b3_1 0), (5, out5_2.val), (6, .bool put6_3), (7, i64 i7_4), (25, .bool x25_11)]) (fun (x25_11 : Bool) => Mo.tt) (fun (x25_11 : Bool) => Ow.star (Blk b3_1 [str f_1.path, i64 f_1.mode, str f_1.data] 45) (Ow.star (Sv.own out5_2 45) (Ow.emp))) hS ?_ ?_
    ·
     clear hS
     intro k12 hS
     refine VC.draw ((List.range 12).map fun k => (k, true)) mixed (by kernel_rfl) (by kernel_rfl) (by kernel_rfl) ?_
     refine VD.q rfl (q_move rfl) (by decide) ?_
     refine VD.q rfl (q_not rfl) (by decide) ?_
     refine VD.q rfl (q_move rfl) (by decide) ?_
     refine VD.split 16 rfl (fun h16 => ?_) (fun h16 => ?_)
     ·
      replace hS := it_t h16 hS
      refine VD.gy rfl rfl rfl (q_move rfl) (by decide) ?_
      refine VD.gy rfl rfl rfl (q_move rfl) (by decide) ?_
      obtain ⟨z19_13, nz19_13, hz19_13, hS⟩ := at_s hS
      refine VD.gy rfl rfl rfl (q_ixm (s := r_0) Tryz.underlying48 gsz45 rfl rfl nz19_13 (lt_of_get nz19_13 hz19_13)) (by decide) ?_
      refine VD.gy rfl rfl rfl (q_field gfa45_0 rfl) (by decide) ?_
      refine VD.gy rfl rfl rfl (q_elf (s := r_0) gone9 rfl hz19_13 rfl) (by decide) ?_
      refine VD.gy rfl rfl rfl (q_field gfa45_0 rfl) (by decide) ?_
      refine VD.gy rfl rfl rfl (q_fe gone9 rfl rfl) (by decide) ?_
      refine VD.gy rfl rfl rfl (q_sgeq rfl rfl) (by decide) ?_
      refine VD.q rfl (q_pick_t rfl rfl) (by decide) ?_
      refine VD.mt (!Op.bytesLess z19_13.path f_1.path) [0, 3, 5, 6, 7, 25] (fun _ _ h => h) hS rfl
     replace hS := it_b h16 hS
     refine Zd ?_
     refine Zd ?_
     refine Zd ?_
     refine Zd ?_
     refine Zd ?_
     refine Zd ?_
     refine Zd ?_
     refine Zd ?_
     refine VD.q rfl (q_pick_f rfl rfl) (by decide) ?_
     refine VD.mt false [0, 3, 5, 6, 7, 25] (fun _ _ h => h) hS rfl
    clear hS
    rintro x25_11 hS
    show VC _ _ _ _ _ [(0, r_0.val), (3, ptr b3_1 0), (5, out5_2.val), (6, .bool put6_3), (7, i64 i7_4), (25, .bool x25_11)] (Mo.and Mo.tt _) (Ow.star (Blk b3_1 [str f_1.path, i64 f_1.mode, str f_1.data] 45) (Ow.star (Sv.own out5_2 45) (Ow.emp)))
    refine VC.cond rfl (fun h25 => ?_) (fun h25 => ?_)
    ·
     replace hS := it_t h25 hS
     refine Zq (Zr ?_)
     refine Zm ?_
     refine VL.q (q_fes gagg45 rfl rfl) (by decide) ?_
     refine VL.lit (α := Rectoref14File) (xs := [.tmp 27]) (vs := [.agg #[str f_1.path, i64 f_1.mode, str f_1.data]]) [⟨f_1.path, f_1.mode, f_1.data⟩] Tryz.underlying48 glit45 (by decide) rfl rfl rfl rfl (by decide) (fun _ _ _ _ => trivial) (by decide) (fun s28_14 hs28_14 => ?_) (by decide)
     replace hS := lt_to hs28_14 hS
     obtain ⟨b29, hS⟩ := gd_s hS
     refine VL.app (s := out5_2) (r := s28_14) Tryz.underlying48 gapp45 (by decide) rfl Fo.out (ap1 b29) (ap2 b29 (by decide)) (by decide) (fun s29_16 hs29_16 => ?_)
     replace hS := lt_to hs29_16 hS
     refine Za ?_
     refine Zl ?_
     refine Zr ?_
     refine Za ?_
     refine VL.mt (s29_16, true) [0, 3, 5, 6, 7] (fun _ _ h => h) hS rfl
    replace hS := it_b h25 hS
    refine VC.skip_mt (out5_2, put6_3) [0, 3, 5, 6, 7] (fun _ _ h => h) hS rfl
   clear hS
   rintro ⟨out5_8, put6_9⟩ hS
   show VC _ _ _ _ _ [(0, r_0.val), (3, ptr b3_1 0), (5, out5_8.val), (6, .bool put6_9), (7, i64 i7_4)] (Mo.and Mo.tt _) (Ow.star (Blk b3_1 [str f_1.path, i64 f_1.mode, str f_1.data] 45) (Ow.star (Sv.own out5_8 45) (Ow.emp)))
   refine Zq ?_
   refine VC.draw ((List.range 8).map fun k => (k, true)) mixed (by kernel_rfl) (by kernel_rfl) (by kernel_rfl) ?_
   refine VD.q rfl (q_move rfl) (by decide) ?_
   refine VD.q rfl (q_move rfl) (by decide) ?_
   obtain ⟨z32_18, nz32_18, hz32_18, hS⟩ := at_s hS
   refine VD.q rfl (q_ixm (s := r_0) Tryz.underlying48 gsz45 rfl rfl nz32_18 (lt_of_get nz32_18 hz32_18)) (by decide) ?_
   refine VD.q rfl (q_field gfa45_0 rfl) (by decide) ?_
   refine VD.q rfl (q_elf (s := r_0) gone9 rfl hz32_18 rfl) (by decide) ?_
   refine VD.q rfl (q_field gfa45_0 rfl) (by decide) ?_
   refine VD.q rfl (q_fe gone9 rfl rfl) (by decide) ?_
   refine VD.q rfl (q_sne rfl rfl) (by decide) ?_
   refine VD.to (fun _ _ h => h) ?_
   refine VC.keep [0, 3, 5, 6, 7, 37] rfl ?_
   refine VC.cond_ndec rfl (fun h37 => ?_) (fun h37 => ?_)
   ·
    replace hS := it_f h37 hS
    refine Zr ?_
    refine Zm ?_
    refine Zm ?_
    refine Zm ?_
    obtain ⟨z41_19, nz41_19, hz41_19, hS⟩ := at_s hS
    refine VL.q (q_ixm (s := r_0) Tryz.underlying48 gsz45 rfl rfl nz41_19 (lt_of_get nz41_19 hz41_19)) (by decide) ?_
    refine VL.q (q_els (s := r_0) gagg45 rfl rfl hz41_19) (by decide) ?_
    refine VL.lit (α := Rectoref14File) (xs := [.tmp 42]) (vs := [.agg #[str z41_19.path, i64 z41_19.mode, str z41_19.data]]) [⟨z41_19.path, z41_19.mode, z41_19.data⟩] Tryz.underlying48 glit45 (by decide) rfl rfl rfl rfl (by decide) (fun _ _ _ _ => trivial) (by decide) (fun s43_20 hs43_20 => ?_) (by decide)
    replace hS := lt_to hs43_20 hS
    obtain ⟨b44, hS⟩ := gd_s hS
    refine VL.app (s := out5_8) (r := s43_20) Tryz.underlying48 gapp45 (by decide) rfl Fo.out (ap1 b44) (ap2 b44 (by decide)) (by decide) (fun s44_22 hs44_22 => ?_)
    replace hS := lt_to hs44_22 hS
    refine Za ?_
    refine VL.mt (s44_22, put6_9) [0, 3, 5, 6, 7] (fun _ _ h => h) hS rfl
   replace hS := it_t h37 hS
   refine VC.skip_mt (out5_8, put6_9) [0, 3, 5, 6, 7] (fun _ _ h => h) hS rfl
  clear hS
  rintro ⟨out5_5, put6_6⟩ hS
  show VC _ _ _ _ _ [(0, r_0.val), (3, ptr b3_1 0), (5, out5_5.val), (6, .bool put6_6), (7, i64 i7_4)] (Mo.and Mo.tt _) (Ow.star (Blk b3_1 [str f_1.path, i64 f_1.mode, str f_1.data] 45) (Ow.star (Sv.own out5_5 45) (Ow.emp)))
  refine Zr ?_
  refine Zm ?_
  obtain ⟨b13, hS⟩ := gd_s hS
  refine VL.q (q_add rfl rfl b13) (by decide) ?_
  refine Za ?_
  refine VL.rnd (out5_5, put6_6, (i7_4 + 1)) [0, 3, 5, 6, 7] (fun _ _ h => h) (go2 hS hK1) rfl
 replace hS := it_f h11 hS
 replace hS := up2 hS hK1
 refine Zx ?_
 refine Zq (Zq (Zr ?_))
 refine Zm ?_
 refine VL.q (q_not rfl) (by decide) ?_
 refine Zl ?_
 refine VC.keep [3, 5, 46] rfl ?_
 refine VC.cond rfl (fun h46 => ?_) (fun h46 => ?_)
 ·
  replace hS := it_t h46 hS
  refine Zr ?_
  refine Zm ?_
  refine VL.q (q_fes gagg45 rfl rfl) (by decide) ?_
  refine VL.lit (α := Rectoref14File) (xs := [.tmp 48]) (vs := [.agg #[str f_1.path, i64 f_1.mode, str f_1.data]]) [⟨f_1.path, f_1.mode, f_1.data⟩] Tryz.underlying48 glit45 (by decide) rfl rfl rfl rfl (by decide) (fun _ _ _ _ => trivial) (by decide) (fun s49_24 hs49_24 => ?_) (by decide)
  replace hS := lt_to hs49_24 hS
  obtain ⟨b50, hS⟩ := gd_s hS
  refine VL.app (s := out5_2) (r := s49_24) Tryz.underlying48 gapp45 (by decide) rfl Fo.out (ap1 b50) (ap2 b50 (by decide)) (by decide) (fun s50_26 hs50_26 => ?_)
  replace hS := lt_to hs50_26 hS
  refine Za ?_
  refine Zl ?_
  refine Zq (Zr ?_)
  refine Zm ?_
  refine Za ?_
  refine Zl ?_
  cases hS
  exact VC.ret (fin1 (.inr rfl) rfl rfl s50_26 rfl rfl (by (try dsimp only); exact InM.out) (by (try dsimp only); exact EntO.out))
 replace hS := it_b h46 hS
 refine Zk ?_
 refine Zq (Zr ?_)
 refine Zm ?_
 refine Za ?_
 refine Zl ?_
 cases hS
 exact VC.ret (fin1 (.inr rfl) rfl rfl out5_2 rfl rfl (by (try dsimp only); exact InM.out) (by (try dsimp only); exact EntO.out))
theorem rectoref14_Same_ct (a_0 : Sv Rectoref14File) (b_1 : Sv Rectoref14File) {r : Bool} (hS : Sh.rectoref14_Same a_0.l b_1.l = some r) :
 Ct Tryz.prog 25 [a_0.val, b_1.val] (a_0.ok.and b_1.ok) (Ow.emp) (X := Unit) (fun _ => .bool r) (fun _ => True) (fun _ => Mo.tt) (fun _ => Ow.emp) := by
 refine Ct.of Tryz.func25 rfl (by kernel_rfl) Tryz.ntmps25 (by simp) fun c => ?_
 unfold Sh.rectoref14_Same at hS
 refine Zq (Zr ?_)
 refine Za ?_
 refine Zl ?_
 refine Zq (Zq (Zr ?_))
 refine Zm ?_
 refine VL.q (q_ln (s := a_0) Tryz.underlying48 rfl) (by decide) ?_
 refine Zm ?_
 refine VL.q (q_ln (s := b_1) Tryz.underlying48 rfl) (by decide) ?_
 refine VL.q (q_neq rfl rfl) (by decide) ?_
 refine Zl ?_
 refine VC.cond_ndec rfl (fun h10 => ?_) (fun h10 => ?_)
 ·
  replace hS := it_f h10 hS
  refine Zq (Zr ?_)
  refine Za ?_
  refine Zl ?_
  cases hS
  exact Ze
 replace hS := it_t h10 hS
 refine Zk ?_
 refine Zq (Zq (Zr ?_))
 refine Za ?_
 refine Zl ?_
 refine Zb ?_
 refine VC.iter (S := Int) (fun (i5_1 : Int) => i5_1) (fun (i5_1 : Int) => [(0, a_0.val), (1, b_1.val), (5, i64 i5_1)]) (fun (i5_1 : Int) => Mo.tt) (fun (i5_1 : Int) => Ow.emp) 0 [0, 1, 5] hS rfl ?_
 clear hS
 rintro i5_1 m1 y1 hS hK1
 show VC _ _ _ _ _ [(0, a_0.val), (1, b_1.val), (5, i64 i5_1)] (Mo.and Mo.tt _) (Ow.emp)
 refine Zq (Zq (Zr ?_))
 refine Zm ?_
 refine Zm ?_
 refine VL.q (q_ln (s := a_0) Tryz.underlying48 rfl) (by decide) ?_
 refine VL.q (q_lss rfl rfl) (by decide) ?_
 refine Zl ?_
 refine VC.cond_dec rfl (fun h14 => ?_) (fun h14 => ?_)
 ·
  replace hS := it_t h14 hS
  refine Zk ?_
  refine Zq (Zb (Zq ?_))
  refine VC.draw ((List.range 9).map fun k => (k, true)) mixed (by kernel_rfl) (by kernel_rfl) (by kernel_rfl) ?_
  refine VD.q rfl (q_move rfl) (by decide) ?_
  refine VD.q rfl (q_move rfl) (by decide) ?_
  obtain ⟨z19_2, nz19_2, hz19_2, hS⟩ := at_s hS
  refine VD.q rfl (q_ixm (s := a_0) Tryz.underlying48 gsz45 rfl rfl nz19_2 (lt_of_get nz19_2 hz19_2)) (by decide) ?_
  refine VD.q rfl (q_els (s := a_0) gagg45 rfl rfl hz19_2) (by decide) ?_
  refine VD.q rfl (q_move rfl) (by decide) ?_
  refine VD.q rfl (q_move rfl) (by decide) ?_
  obtain ⟨z23_3, nz23_3, hz23_3, hS⟩ := at_s hS
  refine VD.q rfl (q_ixm (s := b_1) Tryz.underlying48 gsz45 rfl rfl nz23_3 (lt_of_get nz23_3 hz23_3)) (by decide) ?_
  refine VD.q rfl (q_els (s := b_1) gagg45 rfl rfl hz23_3) (by decide) ?_
  refine VD.q rfl (q_stneq geqg45 (geqs45 z19_2.path z19_2.mode z19_2.data z23_3.path z23_3.mode z23_3.data) rfl rfl) (by decide) ?_
  refine VD.to (fun _ _ h => h) ?_
  refine VC.keep [0, 1, 5, 25] rfl ?_
  refine VC.cond_ndec rfl (fun h25 => ?_) (fun h25 => ?_)
  ·
   replace hS := it_f h25 hS
   refine Zq (Zr ?_)
   refine Za ?_
   refine Zl ?_
   replace hS := up2 hS hK1
   cases hS
   exact Ze
  replace hS := it_t h25 hS
  refine Zk ?_
  refine Zr ?_
  refine Zm ?_
  obtain ⟨b16, hS⟩ := gd_s hS
  refine VL.q (q_add rfl rfl b16) (by decide) ?_
  refine Za ?_
  refine VL.rnd (i5_1 + 1) [0, 1, 5] (fun _ _ h => h) (go2 hS hK1) rfl
 replace hS := it_f h14 hS
 replace hS := up2 hS hK1
 refine Zx ?_
 refine Zq (Zr ?_)
 refine Za ?_
 refine Zl ?_
 cases hS
 exact Ze
theorem rectoref14_Cut_ct (r_0 : Sv Rectoref14File) (p_1 : Str) {r : List Rectoref14File} (hS : Sh.rectoref14_Cut r_0.l p_1 = some r) :
 Ct Tryz.prog 29 [r_0.val, str p_1] r_0.ok (Ow.emp) (X := Sv Rectoref14File) (fun x => x.val) (fun x => r = x.l) (fun x => Mo.tt) (fun x => Sv.own x 45) := by
 refine Ct.of Tryz.func29 rfl (by kernel_rfl) Tryz.ntmps29 (by simp) fun c => ?_
 unfold Sh.rectoref14_Cut at hS
 refine Zq (Zr ?_)
 refine Za ?_
 refine Zl ?_
 refine Zq (Zr ?_)
 refine Za ?_
 refine Zl ?_
 refine Zq (Zq (Zr ?_))
 refine Za ?_
 refine Zl ?_
 refine Zb ?_
 refine VC.nilO (⟨none, 0, []⟩ : Sv Rectoref14File) 45 ⟨rfl, rfl⟩ ?_
 refine VC.iter (S := Sv Rectoref14File × Int) (fun sg => (sg.1.l, sg.2)) (fun sg => [(0, r_0.val), (1, str p_1), (5, sg.1.val), (6, i64 sg.2)]) (fun sg => Mo.tt) (fun sg => Ow.star (Sv.own sg.1 45) (Ow.emp)) (⟨none, 0, []⟩, 0) [0, 1, 5, 6] hS rfl ?_
 clear hS
 rintro ⟨out5_1, i6_2⟩ m1 y1 hS hK1
 show VC _ _ _ _ _ [(0, r_0.val), (1, str p_1), (5, out5_1.val), (6, i64 i6_2)] (Mo.and Mo.tt _) (Ow.star (Sv.own out5_1 45) (Ow.emp))
 refine Zq (Zq (Zr ?_))
 refine Zm ?_
 refine Zm ?_
 refine VL.q (q_ln (s := r_0) Tryz.underlying48 rfl) (by decide) ?_
 refine VL.q (q_lss rfl rfl) (by decide) ?_
 refine Zl ?_
 refine VC.cond_dec rfl (fun h10 => ?_) (fun h10 => ?_)
 ·
  replace hS := it_t h10 hS
  refine Zk ?_
  refine VC.cutJ (S := Sv Rectoref14File) (fun (out5_3 : Sv Rectoref14File) => out5_3.l) (fun (out5_3 : Sv Rectoref14File) => [(0, r_0.val), (1, str p_1), (5, out5_3.val), (6, i64 i6_2)]) (fun (out5_3 : Sv Rectoref14File) => Mo.tt) (fun (out5_3 : Sv Rectoref14File) => Ow.star (Sv.own out5_3 45) (Ow.emp)) hS ?_ ?_
  ·
   clear hS
   intro k4 hS
   refine Zb (Zq (Zr ?_))
   refine Zm ?_
   refine Zm ?_
   obtain ⟨z15_5, nz15_5, hz15_5, hS⟩ := at_s hS
   refine VL.q (q_ixm (s := r_0) Tryz.underlying48 gsz45 rfl rfl nz15_5 (lt_of_get nz15_5 hz15_5)) (by decide) ?_
   refine VL.q (q_field gfa45_0 rfl) (by decide) ?_
   refine VL.q (q_elf (s := r_0) gone9 rfl hz15_5 rfl) (by decide) ?_
   refine Zm ?_
   refine VL.q (q_sne rfl rfl) (by decide) ?_
   refine Zl ?_
   refine VC.keep [0, 1, 5, 6, 19] rfl ?_
   refine VC.cond_ndec rfl (fun h19 => ?_) (fun h19 => ?_)
   ·
    replace hS := it_f h19 hS
    refine Zr ?_
    refine Zm ?_
    refine Zm ?_
    refine Zm ?_
    obtain ⟨z23_6, nz23_6, hz23_6, hS⟩ := at_s hS
    refine VL.q (q_ixm (s := r_0) Tryz.underlying48 gsz45 rfl rfl nz23_6 (lt_of_get nz23_6 hz23_6)) (by decide) ?_
    refine VL.q (q_els (s := r_0) gagg45 rfl rfl hz23_6) (by decide) ?_
    refine VL.lit (α := Rectoref14File) (xs := [.tmp 24]) (vs := [.agg #[str z23_6.path, i64 z23_6.mode, str z23_6.data]]) [⟨z23_6.path, z23_6.mode, z23_6.data⟩] Tryz.underlying48 glit45 (by decide) rfl rfl rfl rfl (by decide) (fun _ _ _ _ => trivial) (by decide) (fun s25_7 hs25_7 => ?_) (by decide)
    replace hS := lt_to hs25_7 hS
    obtain ⟨b26, hS⟩ := gd_s hS
    refine VL.app (s := out5_1) (r := s25_7) Tryz.underlying48 gapp45 (by decide) rfl Fo.out (ap1 b26) (ap2 b26 (by decide)) (by decide) (fun s26_9 hs26_9 => ?_)
    replace hS := lt_to hs26_9 hS
    refine Za ?_
    refine VL.mt s26_9 [0, 1, 5, 6] (fun _ _ h => h) hS rfl
   replace hS := it_t h19 hS
   refine VC.skip_mt out5_1 [0, 1, 5, 6] (fun _ _ h => h) hS rfl
  clear hS
  rintro out5_3 hS
  show VC _ _ _ _ _ [(0, r_0.val), (1, str p_1), (5, out5_3.val), (6, i64 i6_2)] (Mo.and Mo.tt _) (Ow.star (Sv.own out5_3 45) (Ow.emp))
  refine Zr ?_
  refine Zm ?_
  obtain ⟨b12, hS⟩ := gd_s hS
  refine VL.q (q_add rfl rfl b12) (by decide) ?_
  refine Za ?_
  refine VL.rnd (out5_3, (i6_2 + 1)) [0, 1, 5, 6] (fun _ _ h => h) (go2 hS hK1) rfl
 replace hS := it_f h10 hS
 replace hS := up2 hS hK1
 refine Zx ?_
 refine Zq (Zr ?_)
 refine Zm ?_
 refine Za ?_
 refine Zl ?_
 cases hS
 exact VC.ret (fin1 (.inr rfl) rfl rfl out5_1 rfl rfl (by (try dsimp only); exact InM.out) (by (try dsimp only); exact EntO.out))
theorem rectoref14_Clear_ct (r_0 : Sv Rectoref14File) (p_1 : Str) {r : List Rectoref14File} (hS : Sh.rectoref14_Clear r_0.l p_1 = some r) :
 Ct Tryz.prog 31 [r_0.val, str p_1] r_0.ok (Ow.emp) (X := Sv Rectoref14File) (fun x => x.val) (fun x => r = x.l) (fun x => Mo.tt) (fun x => Sv.own x 45) := by
 refine Ct.of Tryz.func31 rfl (by kernel_rfl) Tryz.ntmps31 (by simp) fun c => ?_
 unfold Sh.rectoref14_Clear at hS
 refine Zq (Zr ?_)
 refine Za ?_
 refine Zl ?_
 refine Zq (Zr ?_)
 refine Za ?_
 refine Zl ?_
 refine Zq (Zq (Zr ?_))
 refine Za ?_
 refine Zl ?_
 refine Zb ?_
 refine VC.nilO (⟨none, 0, []⟩ : Sv Rectoref14File) 45 ⟨rfl, rfl⟩ ?_
 refine VC.iter (S := Sv Rectoref14File × Int) (fun sg => (sg.1.l, sg.2)) (fun sg => [(0, r_0.val), (1, str p_1), (5, sg.1.val), (6, i64 sg.2)]) (fun sg => Mo.tt) (fun sg => Ow.star (Sv.own sg.1 45) (Ow.emp)) (⟨none, 0, []⟩, 0) [0, 1, 5, 6] hS rfl ?_
 clear hS
 rintro ⟨out5_1, i6_2⟩ m1 y1 hS hK1
 show VC _ _ _ _ _ [(0, r_0.val), (1, str p_1), (5, out5_1.val), (6, i64 i6_2)] (Mo.and Mo.tt _) (Ow.star (Sv.own out5_1 45) (Ow.emp))
 refine Zq (Zq (Zr ?_))
 refine Zm ?_
 refine Zm ?_
 refine VL.q (q_ln (s := r_0) Tryz.underlying48 rfl) (by decide) ?_
 refine VL.q (q_lss rfl rfl) (by decide) ?_
 refine Zl ?_
 refine VC.cond_dec rfl (fun h10 => ?_) (fun h10 => ?_)
 ·
  replace hS := it_t h10 hS
  refine Zk ?_
  refine VC.cutJ (S := Sv Rectoref14File) (fun (out5_3 : Sv Rectoref14File) => out5_3.l) (fun (out5_3 : Sv Rectoref14File) => [(0, r_0.val), (1, str p_1), (5, out5_3.val), (6, i64 i6_2)]) (fun (out5_3 : Sv Rectoref14File) => Mo.tt) (fun (out5_3 : Sv Rectoref14File) => Ow.star (Sv.own out5_3 45) (Ow.emp)) hS ?_ ?_
  ·
   clear hS
   intro k4 hS
   refine Zb (Zq (Zr ?_))
   refine Zm ?_
   refine Zm ?_
   obtain ⟨z15_5, nz15_5, hz15_5, hS⟩ := at_s hS
   refine VL.q (q_ixm (s := r_0) Tryz.underlying48 gsz45 rfl rfl nz15_5 (lt_of_get nz15_5 hz15_5)) (by decide) ?_
   refine VL.q (q_field gfa45_0 rfl) (by decide) ?_
   refine VL.q (q_elf (s := r_0) gone9 rfl hz15_5 rfl) (by decide) ?_
   refine Zm ?_
   obtain ⟨y19_6, ey19_6, hS⟩ := bd_s hS
   refine VL.q (q_call (rectoref1_Clash_ct z15_5.path p_1 ey19_6) rfl (fun _ _ => rfl)) (by decide) ?_
   refine VL.q (q_not rfl) (by decide) ?_
   refine Zl ?_
   refine VC.keep [0, 1, 5, 6, 20] rfl ?_
   refine VC.cond rfl (fun h20 => ?_) (fun h20 => ?_)
   ·
    replace hS := it_t h20 hS
    refine Zr ?_
    refine Zm ?_
    refine Zm ?_
    refine Zm ?_
    obtain ⟨z24_7, nz24_7, hz24_7, hS⟩ := at_s hS
    refine VL.q (q_ixm (s := r_0) Tryz.underlying48 gsz45 rfl rfl nz24_7 (lt_of_get nz24_7 hz24_7)) (by decide) ?_
    refine VL.q (q_els (s := r_0) gagg45 rfl rfl hz24_7) (by decide) ?_
    refine VL.lit (α := Rectoref14File) (xs := [.tmp 25]) (vs := [.agg #[str z24_7.path, i64 z24_7.mode, str z24_7.data]]) [⟨z24_7.path, z24_7.mode, z24_7.data⟩] Tryz.underlying48 glit45 (by decide) rfl rfl rfl rfl (by decide) (fun _ _ _ _ => trivial) (by decide) (fun s26_8 hs26_8 => ?_) (by decide)
    replace hS := lt_to hs26_8 hS
    obtain ⟨b27, hS⟩ := gd_s hS
    refine VL.app (s := out5_1) (r := s26_8) Tryz.underlying48 gapp45 (by decide) rfl Fo.out (ap1 b27) (ap2 b27 (by decide)) (by decide) (fun s27_10 hs27_10 => ?_)
    replace hS := lt_to hs27_10 hS
    refine Za ?_
    refine VL.mt s27_10 [0, 1, 5, 6] (fun _ _ h => h) hS rfl
   replace hS := it_b h20 hS
   refine VC.skip_mt out5_1 [0, 1, 5, 6] (fun _ _ h => h) hS rfl
  clear hS
  rintro out5_3 hS
  show VC _ _ _ _ _ [(0, r_0.val), (1, str p_1), (5, out5_3.val), (6, i64 i6_2)] (Mo.and Mo.tt _) (Ow.star (Sv.own out5_3 45) (Ow.emp))
  refine Zr ?_
  refine Zm ?_
  obtain ⟨b12, hS⟩ := gd_s hS
  refine VL.q (q_add rfl rfl b12) (by decide) ?_
  refine Za ?_
  refine VL.rnd (out5_3, (i6_2 + 1)) [0, 1, 5, 6] (fun _ _ h => h) (go2 hS hK1) rfl
 replace hS := it_f h10 hS
 replace hS := up2 hS hK1
 refine Zx ?_
 refine Zq (Zr ?_)
 refine Zm ?_
 refine Za ?_
 refine Zl ?_
 cases hS
 exact VC.ret (fin1 (.inr rfl) rfl rfl out5_1 rfl rfl (by (try dsimp only); exact InM.out) (by (try dsimp only); exact EntO.out))
end Go.Proofs.YtleokmhhloamaaaGreatDoor
end

section
set_option linter.unusedVariables false
namespace Go.Proofs.YtleokmhhloamaaaGreatDoor
set_option maxHeartbeats 4000000
set_option maxRecDepth 100000
open Go.RowKit Go.V
open Go.S hiding Str
theorem rectolaw14_RowAny_ct (r_0 : Sv FilesFile) (f_1 : FilesFile) {r : Bool} (hS : Sh.rectolaw14_RowAny r_0.l f_1 = some r) :
 Ct Tryz.prog 5 [r_0.val, .agg #[str f_1.path, i64 f_1.mode, str f_1.data]] (r_0.ok.and Gl) (Ow.emp) (X := Unit) (fun _ => .bool r) (fun _ => True) (fun _ => Mo.tt) (fun _ => Ow.emp) := by
 refine Ct.of Tryz.func5 rfl (by kernel_rfl) Tryz.ntmps5 (by simp) fun c => ?_
 unfold Sh.rectolaw14_RowAny at hS
 refine Zq (Zr ?_)
 refine VL.box (cs := [str f_1.path, i64 f_1.mode, str f_1.data]) rfl rfl (by decide) fun b3_1 => ?_
 refine Za ?_
 refine Zl ?_
 refine Zq (Zq (Zr ?_))
 obtain ⟨y11_2, ey11_2, hS⟩ := bd_s hS
 refine VL.q (q_call (rectolaw14_known_ct ey11_2) rfl (fun _ _ => rfl)) (by decide) ?_
 refine VL.q (q_not rfl) (by decide) ?_
 refine Zl ?_
 refine VC.cond rfl (fun h12 => ?_) (fun h12 => ?_)
 ·
  replace hS := it_t h12 hS
  refine Zq (Zr ?_)
  refine Za ?_
  refine Zl ?_
  cases hS
  exact Ze
 replace hS := it_b h12 hS
 refine Zk ?_
 refine Zq ?_
 refine VC.cutJ (S := Bool) (fun (x27_3 : Bool) => x27_3) (fun (x27_3 : Bool) => [(0, r_0.val), (3, ptr b3_1 0), (27, .bool x27_3)]) (fun (x27_3 : Bool) => Mo.tt) (fun (x27_3 : Bool) => Ow.star (Blk b3_1 [str f_1.path, i64 f_1.mode, str f_1.data] 42) (Ow.emp)) hS ?_ ?_
 ·
  clear hS
  intro k4 hS
  refine Zr ?_
  refine Zm ?_
  obtain ⟨y14_5, ey14_5, hS⟩ := bd_s hS
  refine VL.q (q_call (rectolaw14_Few_ct r_0 ey14_5) rfl (fun _ _ => rfl)) (by decide) ?_
  refine VL.q (q_not rfl) (by decide) ?_
  refine Zm ?_
  refine VL.split 16 rfl (fun h16 => ?_) (fun h16 => ?_)
  ·
   replace hS := it_t h16 hS
   refine Zn ?_
   refine Zn ?_
   refine Zn ?_
   refine Zn ?_
   refine Zt ?_
   refine Zm ?_
   refine Zn ?_
   refine Zn ?_
   refine Zn ?_
   refine Zn ?_
   refine Zt ?_
   refine VL.mt true [0, 3, 27] (fun _ _ h => h) hS rfl
  replace hS := it_b h16 hS
  refine VL.gy rfl rfl (q_field gfa42_0 rfl) (by decide) ?_
  refine VL.gy rfl rfl (q_fe gone9 rfl rfl) (by decide) ?_
  refine VL.gy rfl rfl (q_slen Tryz.underlying9 rfl) (by decide) ?_
  refine VL.gy rfl rfl (q_gtr rfl rfl) (by decide) ?_
  refine Zf ?_
  refine Zm ?_
  refine VL.split_dec 22 rfl (fun h22 => ?_) (fun h22 => ?_)
  ·
   replace hS := it_t h22 hS
   refine Zn ?_
   refine Zn ?_
   refine Zn ?_
   refine Zn ?_
   refine Zt ?_
   refine VL.mt true [0, 3, 27] (fun _ _ h => h) hS rfl
  replace hS := it_f h22 hS
  refine VL.gy rfl rfl (q_field gfa42_2 rfl) (by decide) ?_
  refine VL.gy rfl rfl (q_fe gone9 rfl rfl) (by decide) ?_
  refine VL.gy rfl rfl (q_slen Tryz.underlying9 rfl) (by decide) ?_
  refine VL.gy rfl rfl (q_gtr rfl rfl) (by decide) ?_
  refine Zf ?_
  refine VL.mt (decide (300 < (f_1.data.length : Int))) [0, 3, 27] (fun _ _ h => h) hS rfl
 clear hS
 rintro x27_3 hS
 show VC _ _ _ _ _ [(0, r_0.val), (3, ptr b3_1 0), (27, .bool x27_3)] (Mo.and Mo.tt _) (Ow.star (Blk b3_1 [str f_1.path, i64 f_1.mode, str f_1.data] 42) (Ow.emp))
 refine VC.cond rfl (fun h27 => ?_) (fun h27 => ?_)
 ·
  replace hS := it_t h27 hS
  refine Zq (Zr ?_)
  refine Za ?_
  refine Zl ?_
  cases hS
  exact Ze
 replace hS := it_b h27 hS
 refine Zk ?_
 refine Zq (Zr ?_)
 refine Zm ?_
 obtain ⟨y29_6, ey29_6, hS⟩ := bd_s hS
 refine VL.callO (rectolaw14_Of_ct r_0 ey29_6) rfl (by decide) ?_
 rintro q29_6_0 rfl
 try dsimp only
 refine Za ?_
 refine Zl ?_
 refine Zq (Zq (Zr ?_))
 refine Zm ?_
 obtain ⟨y31_7, ey31_7, hS⟩ := bd_s hS
 refine VL.callF (files_Row_Check_ct r_0 ey31_7) rfl (by decide) ?_
 rintro q31_7_0 rfl
 try dsimp only
 refine Zm ?_
 refine VL.shut q29_6_0 45 (fun _ _ _ _ => trivial) ?_
 obtain ⟨y33_8, ey33_8, hS⟩ := bd_s hS
 refine VL.callF (rectoref14_Check_ct q29_6_0 ey33_8) rfl (by decide) ?_
 rintro q33_8_0 rfl
 try dsimp only
 obtain ⟨y34_9, ey34_9, hS⟩ := bd_s hS
 refine VL.q (q_call (rectolaw2_Tells_ct q31_7_0 q33_8_0 ey34_9) rfl (fun _ _ => rfl)) (by decide) ?_
 refine VL.q (q_not rfl) (by decide) ?_
 refine Zl ?_
 refine VC.keep [0, 3, 5, 35] rfl ?_
 refine VC.cond rfl (fun h35 => ?_) (fun h35 => ?_)
 ·
  replace hS := it_t h35 hS
  refine Zq (Zr ?_)
  refine Za ?_
  refine Zl ?_
  cases hS
  exact Ze
 replace hS := it_b h35 hS
 refine Zk ?_
 refine Zq (Zq (Zr ?_))
 refine Zm ?_
 obtain ⟨y37_10, ey37_10, hS⟩ := bd_s hS
 refine VL.q (q_call (rectolaw14_Rises_ct r_0 ey37_10) rfl (fun _ _ => rfl)) (by decide) ?_
 refine VL.q (q_not rfl) (by decide) ?_
 refine Zl ?_
 refine VC.cond rfl (fun h38 => ?_) (fun h38 => ?_)
 ·
  replace hS := it_t h38 hS
  refine Zq (Zr ?_)
  refine Za ?_
  refine Zl ?_
  cases hS
  exact Ze
 replace hS := it_b h38 hS
 refine Zk ?_
 refine Zq (Zr ?_)
 refine Zm ?_
 refine VL.q (q_field gfa42_0 rfl) (by decide) ?_
 refine VL.q (q_fe gone9 rfl rfl) (by decide) ?_
 obtain ⟨y43_11, ey43_11, hS⟩ := bd_s hS
 refine VL.q (q_call (files_Row_Get_ct r_0 f_1.path ey43_11) rfl (fun _ _ => rfl)) (by decide) ?_
 refine Zm ?_
 refine VL.q (q_extract rfl rfl) (by decide) ?_
 refine VL.q (q_extract rfl rfl) (by decide) ?_
 refine VL.alloc (cs := [str [], i64 0, str []]) (by kernel_rfl) (by decide) fun b6_12 => ?_
 refine VL.store (vc := [str y43_11.1.path, i64 y43_11.1.mode, str y43_11.1.data]) (cs' := [str y43_11.1.path, i64 y43_11.1.mode, str y43_11.1.data]) rfl rfl rfl gsz42 rfl rfl (Nat.le_of_ble_eq_true rfl) rfl ?_
 refine Za ?_
 refine Zl ?_
 refine VC.keep [0, 3, 5, 6, 7] rfl ?_
 refine Zq (Zr ?_)
 refine Zm ?_
 refine VL.q (q_field gfa42_0 rfl) (by decide) ?_
 refine VL.q (q_fe gone9 rfl rfl) (by decide) ?_
 obtain ⟨y50_13, ey50_13, hS⟩ := bd_s hS
 refine VL.q (q_call (rectoref14_Get_ct q29_6_0 f_1.path ey50_13) rfl (fun _ _ => rfl)) (by decide) ?_
 refine Zm ?_
 refine VL.q (q_extract rfl rfl) (by decide) ?_
 refine VL.q (q_extract rfl rfl) (by decide) ?_
 refine VL.alloc (cs := [str [], i64 0, str []]) (by kernel_rfl) (by decide) fun b8_14 => ?_
 refine VL.store (vc := [str y50_13.1.path, i64 y50_13.1.mode, str y50_13.1.data]) (cs' := [str y50_13.1.path, i64 y50_13.1.mode, str y50_13.1.data]) rfl rfl rfl gsz45 rfl rfl (Nat.le_of_ble_eq_true rfl) rfl ?_
 refine Za ?_
 refine Zl ?_
 refine VC.keep [0, 3, 5, 6, 7, 8, 9] rfl ?_
 refine Zq (Zr ?_)
 refine VL.q (q_field gfa42_0 rfl) (by decide) ?_
 refine VL.q (q_fe gone9 rfl rfl) (by decide) ?_
 refine VL.q (q_field gfa42_1 rfl) (by decide) ?_
 refine VL.q (q_fe gone3 rfl rfl) (by decide) ?_
 refine VL.q (q_field gfa42_2 rfl) (by decide) ?_
 refine VL.q (q_fe gone9 rfl rfl) (by decide) ?_
 refine VL.q (q_build (vs := [(0, str f_1.path), (1, i64 f_1.mode), (2, str f_1.data)]) (cs := #[str f_1.path, i64 f_1.mode, str f_1.data]) rfl (by kernel_rfl)) (by decide) ?_
 refine VL.alloc (cs := [str [], i64 0, str []]) (by kernel_rfl) (by decide) fun b10_15 => ?_
 refine VL.store (vc := [str f_1.path, i64 f_1.mode, str f_1.data]) (cs' := [str f_1.path, i64 f_1.mode, str f_1.data]) rfl rfl rfl gsz45 rfl rfl (Nat.le_of_ble_eq_true rfl) rfl ?_
 refine Zl ?_
 refine VC.keep [0, 3, 5, 6, 7, 8, 9, 10] rfl ?_
 refine Zq ?_
 refine VC.draw [(0, true), (1, true), (2, true), (3, true), (4, true), (5, true), (6, true), (7, true), (8, true), (9, true), (10, true), (11, true), (12, true), (13, true), (14, true), (15, true), (16, true), (17, true), (18, true), (19, true), (20, true), (21, true), (22, true), (23, true), (24, true), (25, true), (26, true), (29, true), (30, true), (27, false), (28, false), (31, false), (32, true), (33, true), (34, true), (35, true), (36, true), (37, true), (40, true), (41, true), (42, true), (38, false), (39, false), (43, false), (44, true), (45, true), (46, true), (47, true), (48, true), (49, true), (52, true), (53, true), (54, true), (50, false), (51, false), (55, false), (56, true), (57, true), (58, true), (59, true), (61, true), (60, false), (62, true), (63, true), (64, true)] mixed (by kernel_rfl) (by kernel_rfl) (by kernel_rfl) ?_
 refine VD.q rfl (q_move rfl) (by decide) ?_
 refine VD.q rfl (q_move rfl) (by decide) ?_
 refine VD.q rfl (q_beql Tryz.underlying4 rfl rfl) (by decide) ?_
 refine VD.q rfl (q_move rfl) (by decide) ?_
 refine VD.split_dec 63 rfl (fun h63 => ?_) (fun h63 => ?_)
 ·
  replace hS := it_t h63 hS
  refine VD.gy rfl rfl rfl (q_field gfa42_0 rfl) (by decide) ?_
  refine VD.gy rfl rfl rfl (q_fe gone9 rfl rfl) (by decide) ?_
  refine VD.gy rfl rfl rfl (q_field gfa45_0 rfl) (by decide) ?_
  refine VD.gy rfl rfl rfl (q_fe gone9 rfl rfl) (by decide) ?_
  refine VD.gy rfl rfl rfl (q_seq rfl rfl) (by decide) ?_
  refine VD.q rfl (q_pick_t rfl rfl) (by decide) ?_
  refine VD.q rfl (q_move rfl) (by decide) ?_
  refine VD.split_dec 70 rfl (fun h70 => ?_) (fun h70 => ?_)
  ·
   replace hS := it_t h70 hS
   refine VD.gy rfl rfl rfl (q_field gfa42_1 rfl) (by decide) ?_
   refine VD.gy rfl rfl rfl (q_fe gone3 rfl rfl) (by decide) ?_
   refine VD.gy rfl rfl rfl (q_field gfa45_1 rfl) (by decide) ?_
   refine VD.gy rfl rfl rfl (q_fe gone3 rfl rfl) (by decide) ?_
   refine VD.gy rfl rfl rfl (q_eql rfl rfl) (by decide) ?_
   refine VD.q rfl (q_pick_t rfl rfl) (by decide) ?_
   refine VD.q rfl (q_move rfl) (by decide) ?_
   refine VD.split_dec 77 rfl (fun h77 => ?_) (fun h77 => ?_)
   ·
    replace hS := it_t h77 hS
    refine VD.gy rfl rfl rfl (q_field gfa42_2 rfl) (by decide) ?_
    refine VD.gy rfl rfl rfl (q_fe gone9 rfl rfl) (by decide) ?_
    refine VD.gy rfl rfl rfl (q_field gfa45_2 rfl) (by decide) ?_
    refine VD.gy rfl rfl rfl (q_fe gone9 rfl rfl) (by decide) ?_
    refine VD.gy rfl rfl rfl (q_seq rfl rfl) (by decide) ?_
    refine VD.q rfl (q_pick_t rfl rfl) (by decide) ?_
    refine VD.q rfl (q_move rfl) (by decide) ?_
    refine VD.split_dec 84 rfl (fun h84 => ?_) (fun h84 => ?_)
    ·
     replace hS := it_t h84 hS
     refine VD.gy rfl rfl rfl (q_move rfl) (by decide) ?_
     refine VD.gy rfl rfl rfl (q_fes gagg42 rfl rfl) (by decide) ?_
     refine VD.gy rfl rfl rfl (q_move rfl) (by decide) ?_
     refine VD.gy rfl rfl rfl (q_fes gagg45 rfl rfl) (by decide) ?_
     refine VD.oneG rfl rfl rfl ?_
     refine VL.guard rfl rfl ?_
     obtain ⟨y87_16, ey87_16, hS⟩ := bd_s hS
     refine VL.callF (files_Row_Put_ct r_0 (⟨f_1.path, f_1.mode, f_1.data⟩ : FilesFile) ey87_16) rfl (by decide) ?_
     rintro q87_16_0 rfl
     try dsimp only
     refine VL.back (D' := [(30, .agg #[str f_1.path, i64 f_1.mode, str f_1.data]), (29, q29_6_0.val)]) (by kernel_rfl) (Pend.consG rfl rfl rfl (q_fes gagg45 rfl rfl) (Pend.consG rfl rfl rfl (q_move rfl) (Pend.nil))) ?_
     refine VD.oneG rfl rfl rfl ?_
     refine VL.guard rfl rfl ?_
     obtain ⟨y88_17, ey88_17, hS⟩ := bd_s hS
     refine VL.callO (rectolaw14_Of_ct q87_16_0 ey88_17) rfl (by decide) ?_
     rintro q88_17_0 rfl
     try dsimp only
     refine VL.back (D' := [(30, .agg #[str f_1.path, i64 f_1.mode, str f_1.data]), (29, q29_6_0.val)]) (by kernel_rfl) (Pend.consG rfl rfl rfl (q_fes gagg45 rfl rfl) (Pend.consG rfl rfl rfl (q_move rfl) (Pend.nil))) ?_
     refine VD.oneG rfl rfl rfl ?_
     refine VL.guard rfl rfl ?_
     obtain ⟨y91_18, ey91_18, hS⟩ := bd_s hS
     refine VL.callO (rectoref14_Put_ct q29_6_0 (⟨f_1.path, f_1.mode, f_1.data⟩ : Rectoref14File) ey91_18) rfl (by decide) ?_
     rintro q91_18_0 rfl
     try dsimp only
     refine VL.back (D' := []) (by kernel_rfl) (Pend.nil) ?_
     obtain ⟨y92_19, ey92_19, hS⟩ := bd_s hS
     refine VD.gy rfl rfl rfl (q_callR (rectoref14_Same_ct q88_17_0 q91_18_0 ey92_19) rfl (fun _ _ => rfl)) (by decide) ?_
     refine VD.q rfl (q_pick_t rfl rfl) (by decide) ?_
     refine VD.q rfl (q_move rfl) (by decide) ?_
     refine VD.split 94 rfl (fun h94 => ?_) (fun h94 => ?_)
     ·
      replace hS := it_t h94 hS
      refine VD.gy rfl rfl rfl (q_move rfl) (by decide) ?_
      refine VD.gy rfl rfl rfl (q_field gfa42_0 rfl) (by decide) ?_
      refine VD.gy rfl rfl rfl (q_fe gone9 rfl rfl) (by decide) ?_
      refine VD.gy rfl rfl rfl (q_move rfl) (by decide) ?_
      refine VD.gy rfl rfl rfl (q_field gfa42_0 rfl) (by decide) ?_
      refine VD.gy rfl rfl rfl (q_fe gone9 rfl rfl) (by decide) ?_
      refine VD.oneG rfl rfl rfl ?_
      refine VL.guard rfl rfl ?_
      obtain ⟨y98_20, ey98_20, hS⟩ := bd_s hS
      refine VL.callF (files_Row_Cut_ct r_0 f_1.path ey98_20) rfl (by decide) ?_
      rintro q98_20_0 rfl
      try dsimp only
      refine VL.back (D' := [(42, str f_1.path), (41, ptr b3_1 0), (40, q29_6_0.val)]) (by kernel_rfl) (Pend.consG rfl rfl rfl (q_fe gone9 rfl rfl) (Pend.consG rfl rfl rfl (q_field gfa42_0 rfl) (Pend.consG rfl rfl rfl (q_move rfl) (Pend.nil)))) ?_
      refine VD.oneG rfl rfl rfl ?_
      refine VL.guard rfl rfl ?_
      obtain ⟨y99_21, ey99_21, hS⟩ := bd_s hS
      refine VL.callO (rectolaw14_Of_ct q98_20_0 ey99_21) rfl (by decide) ?_
      rintro q99_21_0 rfl
      try dsimp only
      refine VL.back (D' := [(42, str f_1.path), (41, ptr b3_1 0), (40, q29_6_0.val)]) (by kernel_rfl) (Pend.consG rfl rfl rfl (q_fe gone9 rfl rfl) (Pend.consG rfl rfl rfl (q_field gfa42_0 rfl) (Pend.consG rfl rfl rfl (q_move rfl) (Pend.nil)))) ?_
      refine VD.oneG rfl rfl rfl ?_
      refine VL.guard rfl rfl ?_
      obtain ⟨y103_22, ey103_22, hS⟩ := bd_s hS
      refine VL.callO (rectoref14_Cut_ct q29_6_0 f_1.path ey103_22) rfl (by decide) ?_
      rintro q103_22_0 rfl
      try dsimp only
      refine VL.back (D' := []) (by kernel_rfl) (Pend.nil) ?_
      obtain ⟨y104_23, ey104_23, hS⟩ := bd_s hS
      refine VD.gy rfl rfl rfl (q_callR (rectoref14_Same_ct q99_21_0 q103_22_0 ey104_23) rfl (fun _ _ => rfl)) (by decide) ?_
      refine VD.q rfl (q_pick_t rfl rfl) (by decide) ?_
      refine VD.q rfl (q_move rfl) (by decide) ?_
      refine VD.split 106 rfl (fun h106 => ?_) (fun h106 => ?_)
      ·
       replace hS := it_t h106 hS
       refine VD.gy rfl rfl rfl (q_move rfl) (by decide) ?_
       refine VD.gy rfl rfl rfl (q_field gfa42_0 rfl) (by decide) ?_
       refine VD.gy rfl rfl rfl (q_fe gone9 rfl rfl) (by decide) ?_
       refine VD.gy rfl rfl rfl (q_move rfl) (by decide) ?_
       refine VD.gy rfl rfl rfl (q_field gfa42_0 rfl) (by decide) ?_
       refine VD.gy rfl rfl rfl (q_fe gone9 rfl rfl) (by decide) ?_
       refine VD.oneG rfl rfl rfl ?_
       refine VL.guard rfl rfl ?_
       obtain ⟨y110_24, ey110_24, hS⟩ := bd_s hS
       refine VL.callF (files_Row_Clear_ct r_0 f_1.path ey110_24) rfl (by decide) ?_
       rintro q110_24_0 rfl
       try dsimp only
       refine VL.back (D' := [(54, str f_1.path), (53, ptr b3_1 0), (52, q29_6_0.val)]) (by kernel_rfl) (Pend.consG rfl rfl rfl (q_fe gone9 rfl rfl) (Pend.consG rfl rfl rfl (q_field gfa42_0 rfl) (Pend.consG rfl rfl rfl (q_move rfl) (Pend.nil)))) ?_
       refine VD.oneG rfl rfl rfl ?_
       refine VL.guard rfl rfl ?_
       obtain ⟨y111_25, ey111_25, hS⟩ := bd_s hS
       refine VL.callO (rectolaw14_Of_ct q110_24_0 ey111_25) rfl (by decide) ?_
       rintro q111_25_0 rfl
       try dsimp only
       refine VL.back (D' := [(54, str f_1.path), (53, ptr b3_1 0), (52, q29_6_0.val)]) (by kernel_rfl) (Pend.consG rfl rfl rfl (q_fe gone9 rfl rfl) (Pend.consG rfl rfl rfl (q_field gfa42_0 rfl) (Pend.consG rfl rfl rfl (q_move rfl) (Pend.nil)))) ?_
       refine VD.oneG rfl rfl rfl ?_
       refine VL.guard rfl rfl ?_
       obtain ⟨y115_26, ey115_26, hS⟩ := bd_s hS
       refine VL.callO (rectoref14_Clear_ct q29_6_0 f_1.path ey115_26) rfl (by decide) ?_
       rintro q115_26_0 rfl
       try dsimp only
       refine VL.back (D' := []) (by kernel_rfl) (Pend.nil) ?_
       obtain ⟨y116_27, ey116_27, hS⟩ := bd_s hS
       refine VD.gy rfl rfl rfl (q_callR (rectoref14_Same_ct q111_25_0 q115_26_0 ey116_27) rfl (fun _ _ => rfl)) (by decide) ?_
       refine VD.q rfl (q_pick_t rfl rfl) (by decide) ?_
       refine VD.q rfl (q_move rfl) (by decide) ?_
       refine VD.split 118 rfl (fun h118 => ?_) (fun h118 => ?_)
       ·
        replace hS := it_t h118 hS
        refine VD.gy rfl rfl rfl (q_move rfl) (by decide) ?_
        refine VD.gy rfl rfl rfl (q_move rfl) (by decide) ?_
        refine VD.oneG rfl rfl rfl ?_
        refine VL.guard rfl rfl ?_
        obtain ⟨y120_28, ey120_28, hS⟩ := bd_s hS
        refine VL.callO (rectolaw14_Of_ct r_0 ey120_28) rfl (by decide) ?_
        rintro q120_28_0 rfl
        try dsimp only
        refine VL.back (D' := [(61, q29_6_0.val)]) (by kernel_rfl) (Pend.consG rfl rfl rfl (q_move rfl) (Pend.nil)) ?_
        obtain ⟨y122_29, ey122_29, hS⟩ := bd_s hS
        refine VD.gy rfl rfl rfl (q_callR (rectoref14_Same_ct q120_28_0 q29_6_0 ey122_29) rfl (fun _ _ => rfl)) (by decide) ?_
        refine VD.q rfl (q_pick_t rfl rfl) (by decide) ?_
        refine VD.q rfl (q_assign rfl) (by decide) ?_
        refine VD.to (fun _ _ h => h) ?_
        refine VC.keep [4] rfl ?_
        cases hS
        exact Ze
       replace hS := it_b h118 hS
       refine Zd ?_
       refine Zd ?_
       refine VD.oneN (D' := [(61, undef)]) rfl rfl rfl (by decide) (by decide) (by kernel_rfl) (Pend.consN rfl rfl rfl rfl (Pend.nil)) ?_
       refine Zd ?_
       refine VD.q rfl (q_pick_f rfl rfl) (by decide) ?_
       refine VD.q rfl (q_assign rfl) (by decide) ?_
       refine VD.to (fun _ _ h => h) ?_
       refine VC.keep [4] rfl ?_
       cases hS
       exact Ze
      replace hS := it_b h106 hS
      refine Zd ?_
      refine Zd ?_
      refine Zd ?_
      refine Zd ?_
      refine Zd ?_
      refine Zd ?_
      refine VD.oneN (D' := [(54, undef), (53, undef), (52, undef)]) rfl rfl rfl (by decide) (by decide) (by kernel_rfl) (Pend.consN rfl rfl rfl rfl (Pend.consN rfl rfl rfl rfl (Pend.consN rfl rfl rfl rfl (Pend.nil)))) ?_
      refine VD.oneN (D' := [(54, undef), (53, undef), (52, undef)]) rfl rfl rfl (by decide) (by decide) (by kernel_rfl) (Pend.consN rfl rfl rfl rfl (Pend.consN rfl rfl rfl rfl (Pend.consN rfl rfl rfl rfl (Pend.nil)))) ?_
      refine VD.oneN (D' := []) rfl rfl rfl (by decide) (by decide) (by kernel_rfl) (Pend.nil) ?_
      refine Zd ?_
      refine VD.q rfl (q_pick_f rfl rfl) (by decide) ?_
      refine VD.q rfl (q_move rfl) (by decide) ?_
      refine Zd ?_
      refine Zd ?_
      refine VD.oneN (D' := [(61, undef)]) rfl rfl rfl (by decide) (by decide) (by kernel_rfl) (Pend.consN rfl rfl rfl rfl (Pend.nil)) ?_
      refine Zd ?_
      refine VD.q rfl (q_pick_f rfl rfl) (by decide) ?_
      refine VD.q rfl (q_assign rfl) (by decide) ?_
      refine VD.to (fun _ _ h => h) ?_
      refine VC.keep [4] rfl ?_
      cases hS
      exact Ze
     replace hS := it_b h94 hS
     refine Zd ?_
     refine Zd ?_
     refine Zd ?_
     refine Zd ?_
     refine Zd ?_
     refine Zd ?_
     refine VD.oneN (D' := [(42, undef), (41, undef), (40, undef)]) rfl rfl rfl (by decide) (by decide) (by kernel_rfl) (Pend.consN rfl rfl rfl rfl (Pend.consN rfl rfl rfl rfl (Pend.consN rfl rfl rfl rfl (Pend.nil)))) ?_
     refine VD.oneN (D' := [(42, undef), (41, undef), (40, undef)]) rfl rfl rfl (by decide) (by decide) (by kernel_rfl) (Pend.consN rfl rfl rfl rfl (Pend.consN rfl rfl rfl rfl (Pend.consN rfl rfl rfl rfl (Pend.nil)))) ?_
     refine VD.oneN (D' := []) rfl rfl rfl (by decide) (by decide) (by kernel_rfl) (Pend.nil) ?_
     refine Zd ?_
     refine VD.q rfl (q_pick_f rfl rfl) (by decide) ?_
     refine VD.q rfl (q_move rfl) (by decide) ?_
     refine Zd ?_
     refine Zd ?_
     refine Zd ?_
     refine Zd ?_
     refine Zd ?_
     refine Zd ?_
     refine VD.oneN (D' := [(54, undef), (53, undef), (52, undef)]) rfl rfl rfl (by decide) (by decide) (by kernel_rfl) (Pend.consN rfl rfl rfl rfl (Pend.consN rfl rfl rfl rfl (Pend.consN rfl rfl rfl rfl (Pend.nil)))) ?_
     refine VD.oneN (D' := [(54, undef), (53, undef), (52, undef)]) rfl rfl rfl (by decide) (by decide) (by kernel_rfl) (Pend.consN rfl rfl rfl rfl (Pend.consN rfl rfl rfl rfl (Pend.consN rfl rfl rfl rfl (Pend.nil)))) ?_
     refine VD.oneN (D' := []) rfl rfl rfl (by decide) (by decide) (by kernel_rfl) (Pend.nil) ?_
     refine Zd ?_
     refine VD.q rfl (q_pick_f rfl rfl) (by decide) ?_
     refine VD.q rfl (q_move rfl) (by decide) ?_
     refine Zd ?_
     refine Zd ?_
     refine VD.oneN (D' := [(61, undef)]) rfl rfl rfl (by decide) (by decide) (by kernel_rfl) (Pend.consN rfl rfl rfl rfl (Pend.nil)) ?_
     refine Zd ?_
     refine VD.q rfl (q_pick_f rfl rfl) (by decide) ?_
     refine VD.q rfl (q_assign rfl) (by decide) ?_
     refine VD.to (fun _ _ h => h) ?_
     refine VC.keep [4] rfl ?_
     cases hS
     exact Ze
    replace hS := it_f h84 hS
    refine Zd ?_
    refine Zd ?_
    refine Zd ?_
    refine Zd ?_
    refine VD.oneN (D' := [(30, undef), (29, undef)]) rfl rfl rfl (by decide) (by decide) (by kernel_rfl) (Pend.consN rfl rfl rfl rfl (Pend.consN rfl rfl rfl rfl (Pend.nil))) ?_
    refine VD.oneN (D' := [(30, undef), (29, undef)]) rfl rfl rfl (by decide) (by decide) (by kernel_rfl) (Pend.consN rfl rfl rfl rfl (Pend.consN rfl rfl rfl rfl (Pend.nil))) ?_
    refine VD.oneN (D' := []) rfl rfl rfl (by decide) (by decide) (by kernel_rfl) (Pend.nil) ?_
    refine Zd ?_
    refine VD.q rfl (q_pick_f rfl rfl) (by decide) ?_
    refine VD.q rfl (q_move rfl) (by decide) ?_
    refine Zd ?_
    refine Zd ?_
    refine Zd ?_
    refine Zd ?_
    refine Zd ?_
    refine Zd ?_
    refine VD.oneN (D' := [(42, undef), (41, undef), (40, undef)]) rfl rfl rfl (by decide) (by decide) (by kernel_rfl) (Pend.consN rfl rfl rfl rfl (Pend.consN rfl rfl rfl rfl (Pend.consN rfl rfl rfl rfl (Pend.nil)))) ?_
    refine VD.oneN (D' := [(42, undef), (41, undef), (40, undef)]) rfl rfl rfl (by decide) (by decide) (by kernel_rfl) (Pend.consN rfl rfl rfl rfl (Pend.consN rfl rfl rfl rfl (Pend.consN rfl rfl rfl rfl (Pend.nil)))) ?_
    refine VD.oneN (D' := []) rfl rfl rfl (by decide) (by decide) (by kernel_rfl) (Pend.nil) ?_
    refine Zd ?_
    refine VD.q rfl (q_pick_f rfl rfl) (by decide) ?_
    refine VD.q rfl (q_move rfl) (by decide) ?_
    refine Zd ?_
    refine Zd ?_
    refine Zd ?_
    refine Zd ?_
    refine Zd ?_
    refine Zd ?_
    refine VD.oneN (D' := [(54, undef), (53, undef), (52, undef)]) rfl rfl rfl (by decide) (by decide) (by kernel_rfl) (Pend.consN rfl rfl rfl rfl (Pend.consN rfl rfl rfl rfl (Pend.consN rfl rfl rfl rfl (Pend.nil)))) ?_
    refine VD.oneN (D' := [(54, undef), (53, undef), (52, undef)]) rfl rfl rfl (by decide) (by decide) (by kernel_rfl) (Pend.consN rfl rfl rfl rfl (Pend.consN rfl rfl rfl rfl (Pend.consN rfl rfl rfl rfl (Pend.nil)))) ?_
    refine VD.oneN (D' := []) rfl rfl rfl (by decide) (by decide) (by kernel_rfl) (Pend.nil) ?_
    refine Zd ?_
    refine VD.q rfl (q_pick_f rfl rfl) (by decide) ?_
    refine VD.q rfl (q_move rfl) (by decide) ?_
    refine Zd ?_
    refine Zd ?_
    refine VD.oneN (D' := [(61, undef)]) rfl rfl rfl (by decide) (by decide) (by kernel_rfl) (Pend.consN rfl rfl rfl rfl (Pend.nil)) ?_
    refine Zd ?_
    refine VD.q rfl (q_pick_f rfl rfl) (by decide) ?_
    refine VD.q rfl (q_assign rfl) (by decide) ?_
    refine VD.to (fun _ _ h => h) ?_
    refine VC.keep [4] rfl ?_
    cases hS
    exact Ze
   replace hS := it_f h77 hS
   refine Zd ?_
   refine Zd ?_
   refine Zd ?_
   refine Zd ?_
   refine Zd ?_
   refine VD.q rfl (q_pick_f rfl rfl) (by decide) ?_
   refine VD.q rfl (q_move rfl) (by decide) ?_
   refine Zd ?_
   refine Zd ?_
   refine Zd ?_
   refine Zd ?_
   refine VD.oneN (D' := [(30, undef), (29, undef)]) rfl rfl rfl (by decide) (by decide) (by kernel_rfl) (Pend.consN rfl rfl rfl rfl (Pend.consN rfl rfl rfl rfl (Pend.nil))) ?_
   refine VD.oneN (D' := [(30, undef), (29, undef)]) rfl rfl rfl (by decide) (by decide) (by kernel_rfl) (Pend.consN rfl rfl rfl rfl (Pend.consN rfl rfl rfl rfl (Pend.nil))) ?_
   refine VD.oneN (D' := []) rfl rfl rfl (by decide) (by decide) (by kernel_rfl) (Pend.nil) ?_
   refine Zd ?_
   refine VD.q rfl (q_pick_f rfl rfl) (by decide) ?_
   refine VD.q rfl (q_move rfl) (by decide) ?_
   refine Zd ?_
   refine Zd ?_
   refine Zd ?_
   refine Zd ?_
   refine Zd ?_
   refine Zd ?_
   refine VD.oneN (D' := [(42, undef), (41, undef), (40, undef)]) rfl rfl rfl (by decide) (by decide) (by kernel_rfl) (Pend.consN rfl rfl rfl rfl (Pend.consN rfl rfl rfl rfl (Pend.consN rfl rfl rfl rfl (Pend.nil)))) ?_
   refine VD.oneN (D' := [(42, undef), (41, undef), (40, undef)]) rfl rfl rfl (by decide) (by decide) (by kernel_rfl) (Pend.consN rfl rfl rfl rfl (Pend.consN rfl rfl rfl rfl (Pend.consN rfl rfl rfl rfl (Pend.nil)))) ?_
   refine VD.oneN (D' := []) rfl rfl rfl (by decide) (by decide) (by kernel_rfl) (Pend.nil) ?_
   refine Zd ?_
   refine VD.q rfl (q_pick_f rfl rfl) (by decide) ?_
   refine VD.q rfl (q_move rfl) (by decide) ?_
   refine Zd ?_
   refine Zd ?_
   refine Zd ?_
   refine Zd ?_
   refine Zd ?_
   refine Zd ?_
   refine VD.oneN (D' := [(54, undef), (53, undef), (52, undef)]) rfl rfl rfl (by decide) (by decide) (by kernel_rfl) (Pend.consN rfl rfl rfl rfl (Pend.consN rfl rfl rfl rfl (Pend.consN rfl rfl rfl rfl (Pend.nil)))) ?_
   refine VD.oneN (D' := [(54, undef), (53, undef), (52, undef)]) rfl rfl rfl (by decide) (by decide) (by kernel_rfl) (Pend.consN rfl rfl rfl rfl (Pend.consN rfl rfl rfl rfl (Pend.consN rfl rfl rfl rfl (Pend.nil)))) ?_
   refine VD.oneN (D' := []) rfl rfl rfl (by decide) (by decide) (by kernel_rfl) (Pend.nil) ?_
   refine Zd ?_
   refine VD.q rfl (q_pick_f rfl rfl) (by decide) ?_
   refine VD.q rfl (q_move rfl) (by decide) ?_
   refine Zd ?_
   refine Zd ?_
   refine VD.oneN (D' := [(61, undef)]) rfl rfl rfl (by decide) (by decide) (by kernel_rfl) (Pend.consN rfl rfl rfl rfl (Pend.nil)) ?_
   refine Zd ?_
   refine VD.q rfl (q_pick_f rfl rfl) (by decide) ?_
   refine VD.q rfl (q_assign rfl) (by decide) ?_
   refine VD.to (fun _ _ h => h) ?_
   refine VC.keep [4] rfl ?_
   cases hS
   exact Ze
  replace hS := it_f h70 hS
  refine Zd ?_
  refine Zd ?_
  refine Zd ?_
  refine Zd ?_
  refine Zd ?_
  refine VD.q rfl (q_pick_f rfl rfl) (by decide) ?_
  refine VD.q rfl (q_move rfl) (by decide) ?_
  refine Zd ?_
  refine Zd ?_
  refine Zd ?_
  refine Zd ?_
  refine Zd ?_
  refine VD.q rfl (q_pick_f rfl rfl) (by decide) ?_
  refine VD.q rfl (q_move rfl) (by decide) ?_
  refine Zd ?_
  refine Zd ?_
  refine Zd ?_
  refine Zd ?_
  refine VD.oneN (D' := [(30, undef), (29, undef)]) rfl rfl rfl (by decide) (by decide) (by kernel_rfl) (Pend.consN rfl rfl rfl rfl (Pend.consN rfl rfl rfl rfl (Pend.nil))) ?_
  refine VD.oneN (D' := [(30, undef), (29, undef)]) rfl rfl rfl (by decide) (by decide) (by kernel_rfl) (Pend.consN rfl rfl rfl rfl (Pend.consN rfl rfl rfl rfl (Pend.nil))) ?_
  refine VD.oneN (D' := []) rfl rfl rfl (by decide) (by decide) (by kernel_rfl) (Pend.nil) ?_
  refine Zd ?_
  refine VD.q rfl (q_pick_f rfl rfl) (by decide) ?_
  refine VD.q rfl (q_move rfl) (by decide) ?_
  refine Zd ?_
  refine Zd ?_
  refine Zd ?_
  refine Zd ?_
  refine Zd ?_
  refine Zd ?_
  refine VD.oneN (D' := [(42, undef), (41, undef), (40, undef)]) rfl rfl rfl (by decide) (by decide) (by kernel_rfl) (Pend.consN rfl rfl rfl rfl (Pend.consN rfl rfl rfl rfl (Pend.consN rfl rfl rfl rfl (Pend.nil)))) ?_
  refine VD.oneN (D' := [(42, undef), (41, undef), (40, undef)]) rfl rfl rfl (by decide) (by decide) (by kernel_rfl) (Pend.consN rfl rfl rfl rfl (Pend.consN rfl rfl rfl rfl (Pend.consN rfl rfl rfl rfl (Pend.nil)))) ?_
  refine VD.oneN (D' := []) rfl rfl rfl (by decide) (by decide) (by kernel_rfl) (Pend.nil) ?_
  refine Zd ?_
  refine VD.q rfl (q_pick_f rfl rfl) (by decide) ?_
  refine VD.q rfl (q_move rfl) (by decide) ?_
  refine Zd ?_
  refine Zd ?_
  refine Zd ?_
  refine Zd ?_
  refine Zd ?_
  refine Zd ?_
  refine VD.oneN (D' := [(54, undef), (53, undef), (52, undef)]) rfl rfl rfl (by decide) (by decide) (by kernel_rfl) (Pend.consN rfl rfl rfl rfl (Pend.consN rfl rfl rfl rfl (Pend.consN rfl rfl rfl rfl (Pend.nil)))) ?_
  refine VD.oneN (D' := [(54, undef), (53, undef), (52, undef)]) rfl rfl rfl (by decide) (by decide) (by kernel_rfl) (Pend.consN rfl rfl rfl rfl (Pend.consN rfl rfl rfl rfl (Pend.consN rfl rfl rfl rfl (Pend.nil)))) ?_
  refine VD.oneN (D' := []) rfl rfl rfl (by decide) (by decide) (by kernel_rfl) (Pend.nil) ?_
  refine Zd ?_
  refine VD.q rfl (q_pick_f rfl rfl) (by decide) ?_
  refine VD.q rfl (q_move rfl) (by decide) ?_
  refine Zd ?_
  refine Zd ?_
  refine VD.oneN (D' := [(61, undef)]) rfl rfl rfl (by decide) (by decide) (by kernel_rfl) (Pend.consN rfl rfl rfl rfl (Pend.nil)) ?_
  refine Zd ?_
  refine VD.q rfl (q_pick_f rfl rfl) (by decide) ?_
  refine VD.q rfl (q_assign rfl) (by decide) ?_
  refine VD.to (fun _ _ h => h) ?_
  refine VC.keep [4] rfl ?_
  cases hS
  exact Ze
 replace hS := it_f h63 hS
 refine Zd ?_
 refine Zd ?_
 refine Zd ?_
 refine Zd ?_
 refine Zd ?_
 refine VD.q rfl (q_pick_f rfl rfl) (by decide) ?_
 refine VD.q rfl (q_move rfl) (by decide) ?_
 refine Zd ?_
 refine Zd ?_
 refine Zd ?_
 refine Zd ?_
 refine Zd ?_
 refine VD.q rfl (q_pick_f rfl rfl) (by decide) ?_
 refine VD.q rfl (q_move rfl) (by decide) ?_
 refine Zd ?_
 refine Zd ?_
 refine Zd ?_
 refine Zd ?_
 refine Zd ?_
 refine VD.q rfl (q_pick_f rfl rfl) (by decide) ?_
 refine VD.q rfl (q_move rfl) (by decide) ?_
 refine Zd ?_
 refine Zd ?_
 refine Zd ?_
 refine Zd ?_
 refine VD.oneN (D' := [(30, undef), (29, undef)]) rfl rfl rfl (by decide) (by decide) (by kernel_rfl) (Pend.consN rfl rfl rfl rfl (Pend.consN rfl rfl rfl rfl (Pend.nil))) ?_
 refine VD.oneN (D' := [(30, undef), (29, undef)]) rfl rfl rfl (by decide) (by decide) (by kernel_rfl) (Pend.consN rfl rfl rfl rfl (Pend.consN rfl rfl rfl rfl (Pend.nil))) ?_
 refine VD.oneN (D' := []) rfl rfl rfl (by decide) (by decide) (by kernel_rfl) (Pend.nil) ?_
 refine Zd ?_
 refine VD.q rfl (q_pick_f rfl rfl) (by decide) ?_
 refine VD.q rfl (q_move rfl) (by decide) ?_
 refine Zd ?_
 refine Zd ?_
 refine Zd ?_
 refine Zd ?_
 refine Zd ?_
 refine Zd ?_
 refine VD.oneN (D' := [(42, undef), (41, undef), (40, undef)]) rfl rfl rfl (by decide) (by decide) (by kernel_rfl) (Pend.consN rfl rfl rfl rfl (Pend.consN rfl rfl rfl rfl (Pend.consN rfl rfl rfl rfl (Pend.nil)))) ?_
 refine VD.oneN (D' := [(42, undef), (41, undef), (40, undef)]) rfl rfl rfl (by decide) (by decide) (by kernel_rfl) (Pend.consN rfl rfl rfl rfl (Pend.consN rfl rfl rfl rfl (Pend.consN rfl rfl rfl rfl (Pend.nil)))) ?_
 refine VD.oneN (D' := []) rfl rfl rfl (by decide) (by decide) (by kernel_rfl) (Pend.nil) ?_
 refine Zd ?_
 refine VD.q rfl (q_pick_f rfl rfl) (by decide) ?_
 refine VD.q rfl (q_move rfl) (by decide) ?_
 refine Zd ?_
 refine Zd ?_
 refine Zd ?_
 refine Zd ?_
 refine Zd ?_
 refine Zd ?_
 refine VD.oneN (D' := [(54, undef), (53, undef), (52, undef)]) rfl rfl rfl (by decide) (by decide) (by kernel_rfl) (Pend.consN rfl rfl rfl rfl (Pend.consN rfl rfl rfl rfl (Pend.consN rfl rfl rfl rfl (Pend.nil)))) ?_
 refine VD.oneN (D' := [(54, undef), (53, undef), (52, undef)]) rfl rfl rfl (by decide) (by decide) (by kernel_rfl) (Pend.consN rfl rfl rfl rfl (Pend.consN rfl rfl rfl rfl (Pend.consN rfl rfl rfl rfl (Pend.nil)))) ?_
 refine VD.oneN (D' := []) rfl rfl rfl (by decide) (by decide) (by kernel_rfl) (Pend.nil) ?_
 refine Zd ?_
 refine VD.q rfl (q_pick_f rfl rfl) (by decide) ?_
 refine VD.q rfl (q_move rfl) (by decide) ?_
 refine Zd ?_
 refine Zd ?_
 refine VD.oneN (D' := [(61, undef)]) rfl rfl rfl (by decide) (by decide) (by kernel_rfl) (Pend.consN rfl rfl rfl rfl (Pend.nil)) ?_
 refine Zd ?_
 refine VD.q rfl (q_pick_f rfl rfl) (by decide) ?_
 refine VD.q rfl (q_assign rfl) (by decide) ?_
 refine VD.to (fun _ _ h => h) ?_
 refine VC.keep [4] rfl ?_
 cases hS
 exact Ze
end Go.Proofs.YtleokmhhloamaaaGreatDoor
end

section
namespace Go.S
theorem at_get {α : Type} {l : List α} {i : Int} (h0 : 0 ≤ i) (h : i < l.length) : ∃ z, l[i.toNat]? = some z := ⟨_, List.getElem?_eq_getElem (by omega)⟩
theorem eqloop {α : Type} [DecidableEq α] (P : α → α → Prop) [∀ z w, Decidable (P z w)] (hP : ∀ z w, P z w ↔ z = w) (l r : List α) (hl : (l.length : Int) = r.length) (hb : (l.length : Int) ≤ 1000000000) (B : Int → Option (Int ⊕ Bool))
    (hB : ∀ i, B i = if i < (l.length : Int) then (at_ l i).bind (fun z => (at_ r i).bind (fun w => if P z w then gd (I64 (i + 1)) (go (i + 1)) else up (some false))) else up (some true)) : iter B 0 = some (decide (l = r)) := by
  apply Ok.eq
  refine ok_iter (I := fun i => 0 ≤ i ∧ i ≤ l.length ∧ l.take i.toNat = r.take i.toNat) (μ := fun i => (l.length - i).toNat) ?_ ⟨by omega, by omega, rfl⟩
  rintro i ⟨h0, h1, h2⟩
  rw [hB]
  simp only [ok_if, ok_up, ok_bd, ok_gd, ok_go, ok_some, ok_at]
  refine ⟨fun h => ?_, fun h => ?_⟩
  · obtain ⟨z, hz⟩ := at_get h0 h
    obtain ⟨w, hw⟩ := at_get (l := r) h0 (by omega)
    refine ⟨h0, z, hz, h0, w, hw, fun hp => ?_, fun hp => ?_⟩
    · have e := (hP z w).1 hp
      refine ⟨⟨by omega, by omega⟩, ⟨by omega, by omega, ?_⟩, by omega⟩
      rw [show (i + 1).toNat = i.toNat + 1 by omega, List.take_add_one, List.take_add_one, h2, hz, hw, e]
    · have e : z ≠ w := fun e => hp ((hP z w).2 e)
      refine (decide_eq_false fun q => e ?_).symm
      subst q
      rw [hz] at hw
      exact Option.some.inj hw
  · have e : i.toNat = l.length := by omega
    rw [e, List.take_length] at h2
    rw [show l.length = r.length by omega, List.take_length] at h2
    exact (decide_eq_true h2).symm
end Go.S
end

section
namespace Go.S
theorem get_lt {α : Type} {l : List α} {i : Nat} {x : α} (h : l[i]? = some x) : i < l.length := (List.getElem?_eq_some_iff.1 h).1
theorem at_last {α : Type} (l : List α) (z : α) : (l ++ [z])[(((l ++ [z]).length : Int) - 1).toNat]? = some z := by
  rw [show ((((l ++ [z]).length : Int) - 1).toNat) = l.length by simp]
  simp
theorem take_snoc {α : Type} {l : List α} {i : Int} {z : α} (h0 : 0 ≤ i) (h : l[i.toNat]? = some z) : l.take (i + 1).toNat = l.take i.toNat ++ [z] := by
  rw [show (i + 1).toNat = i.toNat + 1 by omega, List.take_add_one, h]; rfl
theorem filter_snoc {α : Type} (p : α → Bool) (l : List α) (z : α) : (l ++ [z]).filter p = l.filter p ++ (if p z then [z] else []) := by
  rw [List.filter_append]; cases h : p z <;> simp [h]
theorem ok_jnP {S R : Type} {K : S → Option R} {F : (S → Option R) → Option R} {Q : R → Prop} (P : S → Prop) (hK : ∀ s, P s → Ok (K s) Q) (hF : ∀ K' : S → Option R, (∀ s, P s → Ok (K' s) Q) → Ok (F K') Q) : Ok (jn K F) Q := hF K hK
theorem byte_eq {z : UInt8} {n : Nat} (hn : n < 256) : ((z.toNat : Int) = n) ↔ z = UInt8.ofNat n := by
  constructor
  · intro h
    apply UInt8.toNat_inj.1
    simp [Nat.mod_eq_of_lt hn]; omega
  · intro h
    subst h
    simp [Nat.mod_eq_of_lt hn]
theorem mid1 {α : Type} {s : List α} {i : Int} {z : α} (h0 : 0 ≤ i) (h : s[i.toNat]? = some z) : (s.drop i.toNat).take ((i + 1).toNat - i.toNat) = [z] := by
  obtain ⟨h1, h2⟩ := List.getElem?_eq_some_iff.1 h
  rw [show (i + 1).toNat - i.toNat = 1 by omega, List.drop_eq_getElem_cons h1, h2]
  rfl
end Go.S
end

section
namespace Go.S
open Go
def Fst {α : Type} (p : α → Bool) (l : List α) (r : Int) : Prop := (r = -1 ∧ ∀ z ∈ l, p z = false) ∨ ∃ k : Nat, r = k ∧ k < l.length ∧ (∀ z ∈ l.take k, p z = false) ∧ ∃ z, l[k]? = some z ∧ p z = true
theorem ixloop {α : Type} (p : α → Bool) (l : List α) (hb : l.length ≤ 1000000000) (F : α → Option Bool) (hF : ∀ z ∈ l, F z = some (p z)) (B : Int → Option (Int ⊕ Int))
    (hB : ∀ i, B i = if i < (l.length : Int) then (at_ l i).bind (fun z => (F z).bind (fun y => if y = true then up (some i) else gd (I64 (i + 1)) (go (i + 1)))) else up (some (-1))) : Ok (iter B 0) (Fst p l) := by
  refine ok_iter (I := fun i => 0 ≤ i ∧ i ≤ l.length ∧ ∀ z ∈ l.take i.toNat, p z = false) (μ := fun i => (l.length - i).toNat) ?_ ⟨by omega, by omega, by simp⟩
  rintro i ⟨h0, h1, h2⟩
  rw [hB]
  simp only [ok_if, ok_up, ok_bd, ok_some, ok_at]
  refine ⟨fun h => ?_, fun h => ?_⟩
  · obtain ⟨z, hz⟩ := at_get h0 h
    refine ⟨h0, z, hz, ?_⟩
    rw [hF z (List.mem_of_getElem? hz), ok_some]
    simp only [ok_if, ok_up, ok_gd, ok_go, ok_some]
    refine ⟨fun hp => .inr ⟨i.toNat, by omega, by omega, h2, z, hz, hp⟩, fun hp => ⟨⟨by omega, by omega⟩, ⟨by omega, by omega, fun y hy => ?_⟩, by omega⟩⟩
    rw [take_snoc h0 hz] at hy
    rcases List.mem_append.1 hy with q | q
    · exact h2 y q
    · rw [List.mem_singleton.1 q]; simpa using hp
  · rw [List.take_of_length_le (by omega)] at h2
    exact .inl ⟨rfl, h2⟩
theorem fst_any {α : Type} {p : α → Bool} {l : List α} {r : Int} (h : Fst p l r) : decide (0 ≤ r) = l.any p := by
  rcases h with ⟨rfl, h⟩ | ⟨k, rfl, hk, _, z, hz, hp⟩
  · have : l.any p = false := List.any_eq_false.2 fun z hz => by simp [h z hz]
    rw [this]; rfl
  · have : l.any p = true := List.any_eq_true.2 ⟨z, List.mem_of_getElem? hz, hp⟩
    rw [this]; simp
theorem set_take {α : Type} {s : List α} {i : Nat} {z : α} (h : i < s.length) : (s.set i z).take (i + 1) = s.take i ++ [z] := by
  rw [List.take_add_one, List.getElem?_set_self h, List.take_set_of_le (Nat.le_refl i)]; rfl
theorem delloop {α : Type} (p : α → Bool) (l : List α) (hb : l.length ≤ 1000000000) (F : α → Option Bool) (hF : ∀ z ∈ l, F z = some (p z)) (k : Nat) (hk : k < l.length) (h0 : ∀ z ∈ l.take k, p z = false) (hz : ∃ z, l[k]? = some z ∧ p z = true)
    (B : List α × Int × Int → Option ((List α × Int × Int) ⊕ List α))
    (hB : ∀ t, B t = if t.2.2 < (t.1.length : Int) then (jn (fun (u : List α × Int) => gd (I64 (t.2.2 + 1)) (go (u.1, u.2, (t.2.2 + 1)))) (fun k7 => (at_ t.1 t.2.2).bind (fun z => (F z).bind (fun y => if (!y) = true then ((at_ t.1 t.2.1).bind (fun _ => lt (t.1.set t.2.1.toNat z) (fun ys => gd (I64 (t.2.1 + 1)) (k7 (ys, (t.2.1 + 1)))))) else (k7 (t.1, t.2.1))))))
      else (up (gd ((0 : Int) ≤ t.2.1 ∧ t.2.1 ≤ (t.1.length : Int)) (lt (t.1.take t.2.1.toNat) (fun ys => some ys))))) :
    iter B (l, (k : Int), (k : Int) + 1) = some (l.filter fun z => !p z) := by
  apply Ok.eq
  refine ok_iter (I := fun t => 0 ≤ t.2.1 ∧ t.2.1 < t.2.2 ∧ t.2.2 ≤ l.length ∧ t.1.length = l.length ∧ t.1.take t.2.1.toNat = (l.take t.2.2.toNat).filter (fun z => !p z) ∧ ∀ j, t.2.2.toNat ≤ j → t.1[j]? = l[j]?) (μ := fun t => (l.length - t.2.2).toNat) ?_ ?_
  · rintro ⟨s, i, j⟩ ⟨i0, i1, i2, i3, i4, i5⟩
    dsimp only at i0 i1 i2 i3 i4 i5
    rw [hB]
    dsimp only
    simp only [ok_if, ok_up, ok_gd, ok_lt, ok_some]
    refine ⟨fun hj => ?_, fun hj => ⟨⟨i0, by omega⟩, ?_⟩⟩
    · obtain ⟨z, hz⟩ := at_get (l := l) (i := j) (by omega) (by omega)
      have hs : s[j.toNat]? = some z := by rw [i5 _ (Nat.le_refl _), hz]
      have hzl := List.mem_of_getElem? hz
      refine ok_jnP (fun u => 0 ≤ u.2 ∧ u.2 < j + 1 ∧ u.1.length = l.length ∧ u.1.take u.2.toNat = (l.take (j + 1).toNat).filter (fun z => !p z) ∧ ∀ m, (j + 1).toNat ≤ m → u.1[m]? = l[m]?) ?_ ?_
      · rintro ⟨s', i'⟩ ⟨q1, q2, q3, q4, q5⟩
        simp only [ok_gd, ok_go]
        exact ⟨⟨by omega, by omega⟩, ⟨q1, q2, by omega, q3, q4, q5⟩, by omega⟩
      · intro K hK
        rw [ok_bd, ok_at]
        refine ⟨by omega, z, hs, ?_⟩
        rw [hF z hzl, ok_bd, ok_some, ok_if]
        have hsn : (l.take (j + 1).toNat).filter (fun z => !p z) = (l.take j.toNat).filter (fun z => !p z) ++ (if (!p z) = true then [z] else []) := by rw [take_snoc (by omega) hz, filter_snoc]
        refine ⟨fun hp => ?_, fun hp => hK _ ⟨i0, by omega, i3, by rw [hsn, if_neg hp, List.append_nil]; exact i4, fun m hm => i5 m (by omega)⟩⟩
        obtain ⟨y, hy⟩ := at_get (l := s) (i := i) i0 (by omega)
        rw [ok_bd, ok_at]
        refine ⟨i0, y, hy, ?_⟩
        simp only [ok_lt, ok_gd]
        refine ⟨⟨by omega, by omega⟩, hK _ ⟨by omega, by omega, by simpa using i3, ?_, fun m hm => ?_⟩⟩
        · rw [hsn, if_pos hp, show (i + 1).toNat = i.toNat + 1 by omega, set_take (by omega), i4]
        · rw [List.getElem?_set_ne (by omega)]
          exact i5 m (by omega)
    · rw [i4, List.take_of_length_le (by omega)]
  · obtain ⟨z, hz, hp⟩ := hz
    refine ⟨by dsimp only; omega, by dsimp only; omega, by dsimp only; omega, rfl, ?_, fun j _ => rfl⟩
    dsimp only
    rw [show ((k : Int) + 1).toNat = k + 1 by omega, show ((k : Int)).toNat = k by omega, List.take_add_one, hz, Option.toList, filter_snoc]
    rw [if_neg (by simp [hp]), List.append_nil]
    exact (List.filter_eq_self.2 fun x hx => by simp [h0 x hx]).symm
theorem del_ok {α : Type} (p : α → Bool) (l : List α) (hb : l.length ≤ 1000000000) (F : α → Option Bool) (hF : ∀ z ∈ l, F z = some (p z)) (ix : Option Int) (hix : Ok ix (Fst p l))
    (B : List α × Int × Int → Option ((List α × Int × Int) ⊕ List α))
    (hB : ∀ t, B t = if t.2.2 < (t.1.length : Int) then (jn (fun (u : List α × Int) => gd (I64 (t.2.2 + 1)) (go (u.1, u.2, (t.2.2 + 1)))) (fun k7 => (at_ t.1 t.2.2).bind (fun z => (F z).bind (fun y => if (!y) = true then ((at_ t.1 t.2.1).bind (fun _ => lt (t.1.set t.2.1.toNat z) (fun ys => gd (I64 (t.2.1 + 1)) (k7 (ys, (t.2.1 + 1)))))) else (k7 (t.1, t.2.1))))))
      else (up (gd ((0 : Int) ≤ t.2.1 ∧ t.2.1 ≤ (t.1.length : Int)) (lt (t.1.take t.2.1.toNat) (fun ys => some ys))))) :
    (ix.bind fun y => if y = -1 then some l else gd (I64 (y + 1)) (iter B (l, y, y + 1))) = some (l.filter fun z => !p z) := by
  obtain ⟨r, hr, h⟩ := hix
  rw [hr, Option.bind_some]
  rcases h with ⟨rfl, h⟩ | ⟨k, rfl, hk, h0, hz⟩
  · rw [if_pos rfl]
    exact congrArg some (List.filter_eq_self.2 fun x hx => by simp [h x hx]).symm
  · rw [if_neg (by omega)]
    unfold gd
    rw [if_pos (show I64 ((k : Int) + 1) from ⟨by omega, by omega⟩)]
    exact delloop p l hb F hF k hk h0 hz B hB
end Go.S
end

section
namespace Go.S
open Go
def spl (c : UInt8) : List UInt8 → List (List UInt8)
  | [] => [[]]
  | x :: r => if x = c then [] :: spl c r else match spl c r with
    | [] => [[x]]
    | y :: l => (x :: y) :: l
theorem spl_ne (c : UInt8) : ∀ s, spl c s ≠ []
  | [] => by simp [spl]
  | x :: r => by
    unfold spl
    split
    · simp
    · split <;> simp
theorem spl_len (c : UInt8) : ∀ s, (spl c s).length = s.count c + 1
  | [] => by simp [spl]
  | x :: r => by
    have ih := spl_len c r
    unfold spl
    by_cases h : x = c
    · simp [h, ih]
    · rw [if_neg h, List.count_cons_of_ne (by simpa using h)]
      cases hq : spl c r with
      | nil => exact absurd hq (spl_ne c r)
      | cons y l => rw [hq] at ih; simpa using ih
theorem spl_no {c : UInt8} : ∀ {s : List UInt8}, c ∉ s → spl c s = [s]
  | [], _ => rfl
  | x :: r, h => by
    have hx : x ≠ c := fun e => h (by simp [e])
    rw [spl, if_neg hx, spl_no fun e => h (List.mem_cons_of_mem _ e)]
theorem spl_at {c : UInt8} : ∀ {a : List UInt8} (b : List UInt8), c ∉ a → spl c (a ++ c :: b) = a :: spl c b
  | [], b, _ => by simp [spl]
  | x :: a, b, h => by
    have hx : x ≠ c := fun e => h (by simp [e])
    rw [List.cons_append, spl, if_neg hx, spl_at b fun e => h (List.mem_cons_of_mem _ e)]
theorem spl_snoc (c x : UInt8) : ∀ s, ∃ l y, spl c s = l ++ [y] ∧ spl c (s ++ [x]) = if x = c then l ++ [y, []] else l ++ [y ++ [x]]
  | [] => ⟨[], [], rfl, by by_cases h : x = c <;> simp [spl, h]⟩
  | z :: r => by
    obtain ⟨l, y, h1, h2⟩ := spl_snoc c x r
    by_cases hz : z = c
    · refine ⟨[] :: l, y, by simp [spl, hz, h1], ?_⟩
      rw [List.cons_append, spl, if_pos hz, h2]
      split <;> rfl
    · cases l with
      | nil =>
        refine ⟨[], z :: y, by simp [spl, hz, h1], ?_⟩
        rw [List.cons_append, spl, if_neg hz, h2]
        by_cases hx : x = c <;> simp [hx]
      | cons a l =>
        refine ⟨(z :: a) :: l, y, by simp [spl, hz, h1], ?_⟩
        rw [List.cons_append, spl, if_neg hz, h2]
        by_cases hx : x = c <;> simp [hx]
theorem ix_at {c : UInt8} : ∀ {a : List UInt8} (b : List UInt8), c ∉ a → Lib.indexByte (a ++ c :: b) c = a.length
  | [], b, _ => by simp [Lib.indexByte]
  | x :: a, b, h => by
    have hx : (x == c) = false := by simpa using fun e : x = c => h (by simp [e])
    rw [List.cons_append, Lib.indexByte, hx, ix_at b fun e => h (List.mem_cons_of_mem _ e)]
    simp
theorem split_mem {c : UInt8} {s : List UInt8} (h : c ∈ s) : ∃ a b, s = a ++ c :: b ∧ c ∉ a := by
  induction s with
  | nil => cases h
  | cons x r ih =>
    by_cases hx : x = c
    · exact ⟨[], r, by simp [hx], by simp⟩
    · rcases List.mem_cons.1 h with q | q
      · exact absurd q.symm hx
      · obtain ⟨a, b, e, hn⟩ := ih q
        exact ⟨x :: a, b, by simp [e], by simp [hn, Ne.symm hx]⟩
theorem byte_of (c : UInt8) : (c.toNat : Int).toNat.toUInt8 = c := by simp
theorem ixB_eq (s : List UInt8) (c : UInt8) : ixB s (c.toNat : Int) = Lib.indexByte s c := by unfold ixB; rw [byte_of]
theorem index_ok (s : List UInt8) (c : UInt8) : Sh.internal_stringslite_Index s [c] = some (Lib.indexByte s c) := by
  apply Ok.eq
  unfold Sh.internal_stringslite_Index
  simp only [ok_jn, ok_if, ok_bd, ok_some, ok_at]
  refine ⟨fun h => by simp at h, fun _ => ⟨fun h => ?_, fun _ => ⟨fun _ => ⟨by omega, c, rfl, ?_⟩, fun h => by simp at h⟩⟩⟩
  · have : s = [c] := by simpa using (of_decide_eq_true h).symm
    rw [this]; simp [Lib.indexByte]
  · unfold Sh.internal_stringslite_IndexByte
    rw [ixB_eq]; exact Ok.of rfl rfl
theorem sindex_ok (s : List UInt8) (c : UInt8) : Sh.strings_Index s [c] = some (Lib.indexByte s c) := by
  unfold Sh.strings_Index
  rw [index_ok]; rfl
theorem count_ok (s : List UInt8) (c : UInt8) : Sh.strings_Count s [c] = some (s.count c : Int) := by
  apply Ok.eq
  unfold Sh.strings_Count
  rw [if_neg (by simp), if_pos (by simp)]
  simp only [ok_bd, ok_at, ok_some]
  refine ⟨by omega, c, rfl, ?_⟩
  unfold cntB Lib.countByte
  rw [byte_of]
theorem split_ok {s : List UInt8} (c : UInt8) (hs : s.length ≤ 1000000000) : Sh.strings_Split s [c] = some (spl c s) := by
  apply Ok.eq
  unfold Sh.strings_Split Sh.strings_genSplit
  rw [ok_bd]
  have hc : s.count c ≤ s.length := List.count_le_length
  simp only [count_ok, ok_jn, ok_if, ok_bd, ok_gd, ok_lt, ok_some, ok_at]
  refine ⟨fun h => by omega, fun _ => ⟨fun h => by simp at h, fun _ => ⟨fun _ => ?_, fun h => by omega⟩⟩⟩
  have hm : (min ((s.count c : Int) + 1) ((s.length : Int) + 1)) = (s.count c : Int) + 1 := by omega
  rw [hm]
  refine ⟨⟨by omega, by omega⟩, ⟨by omega, by omega⟩, ⟨by omega, by omega⟩, ⟨by omega, by omega⟩, ?_⟩
  refine ok_iter (I := fun t => 0 ≤ t.2.2 ∧ t.2.2 + t.1.count c = s.count c ∧ t.2.1.length = s.count c + 1 ∧ t.2.1.take t.2.2.toNat ++ spl c t.1 = spl c s ∧ t.1.length ≤ s.length) (μ := fun t => t.1.length) ?_ ⟨by simp, by simp, by simp, by simp, by simp⟩
  rintro ⟨x, l, i⟩ ⟨i0, i1, i2, i3, i4⟩
  dsimp only at i0 i1 i2 i3 i4 ⊢
  have fin : c ∉ x → Ok (((at_ l i).bind fun z61_20 => lt (l.set i.toNat x) fun ys4_22 => gd (I64 (i + 1)) (gd ((0 : Int) ≤ (i + 1) ∧ (i + 1) ≤ (ys4_22.length : Int)) (lt (ys4_22.take (i + 1).toNat) fun y65_24 => some y65_24)))) (fun a => a = spl c s) := fun hx => by
    rw [spl_no hx] at i3
    rw [List.count_eq_zero_of_not_mem hx] at i1
    simp only [ok_bd, ok_gd, ok_lt, ok_some, ok_at]
    obtain ⟨z, hz⟩ := at_get (l := l) i0 (by omega)
    refine ⟨i0, z, hz, ⟨by omega, by omega⟩, ⟨by omega, by rw [List.length_set]; omega⟩, ?_⟩
    rw [← i3, show (i + 1).toNat = i.toNat + 1 by omega, List.take_add_one, List.getElem?_set, if_pos rfl, if_pos (get_lt hz), List.take_set_of_le (Nat.le_refl _)]
    simp
  simp only [ok_jn, ok_if, ok_up, ok_bd, ok_gd, ok_lt, ok_go, ok_some, ok_at, sindex_ok] at fin ⊢
  refine ⟨fun hi => ?_, fun hi => ?_⟩
  · have hmem : c ∈ x := List.count_pos_iff.1 (by omega)
    obtain ⟨a, b, e, ha⟩ := split_mem hmem
    subst e
    rw [ix_at b ha]
    have hl : (a ++ c :: b).length = a.length + b.length + 1 := by simp; omega
    have hcb : (a ++ c :: b).count c = b.count c + 1 := by simp [List.count_eq_zero_of_not_mem ha]
    obtain ⟨z, hz⟩ := at_get (l := l) i0 (by omega)
    refine ⟨fun h => by omega, fun _ => ⟨⟨by omega, by omega⟩, ⟨by omega, by omega⟩, i0, z, hz, ⟨by simp; omega, by simp; omega⟩, ⟨by simp; omega, by simp; omega⟩, ⟨by omega, by omega⟩, ⟨by omega, ?_, by simpa using i2, ?_, ?_⟩, ?_⟩⟩
    · simp only [List.length_cons, List.length_nil]
      rw [show ((a.length : Int) + ((0 + 1 : Nat) : Int)).toNat = a.length + 1 by omega]
      have : (a ++ c :: b).drop (a.length + 1) = b := by simp
      rw [this]; omega
    · simp only [List.length_cons, List.length_nil]
      rw [show ((a.length : Int) + ((0 + 1 : Nat) : Int)).toNat = a.length + 1 by omega, show ((a.length : Int) + 0).toNat = a.length by omega]
      have e1 : (a ++ c :: b).drop (a.length + 1) = b := by simp
      have e2 : (a ++ c :: b).take a.length = a := by simp
      rw [e1, e2, ← i3, spl_at b ha, show (i + 1).toNat = i.toNat + 1 by omega, List.take_add_one, List.getElem?_set, if_pos rfl, if_pos (get_lt hz), List.take_set_of_le (Nat.le_refl _)]
      simp
    · simp; omega
    · simp; omega
  · exact fin fun hm => by have := List.count_pos_iff.2 hm; omega
theorem spl_part (c : UInt8) : ∀ (s : List UInt8), ∀ y ∈ spl c s, y.length ≤ s.length
  | [], y, h => by simp [spl] at h; simp [h]
  | x :: r, y, h => by
    have ih := spl_part c r
    unfold spl at h
    split at h
    · rcases List.mem_cons.1 h with q | q
      · simp [q]
      · have := ih y q; simp; omega
    · split at h
      · have := List.mem_singleton.1 h; simp [this]
      · next a l hq =>
        rcases List.mem_cons.1 h with q | q
        · have := ih a (by rw [hq]; simp); simp [q]; omega
        · have := ih y (by rw [hq]; simp [q]); simp; omega
end Go.S
end

section
namespace Go.S
open Go
def goodN (n : Nat) : Bool := decide (97 ≤ n ∧ n ≤ 122) || decide (48 ≤ n ∧ n ≤ 57) || decide (n = 46) || decide (n = 45) || decide (n = 95)
theorem good_all : ∀ i : Fin 256, Sh.path_good ((i.val : Nat) : Int) = some (goodN i.val) ∧ Sh.rectoref1_good ((i.val : Nat) : Int) = some (goodN i.val) := by decide +kernel
theorem good_ok (z : UInt8) : Sh.path_good (z.toNat : Int) = some (goodN z.toNat) := (good_all ⟨z.toNat, z.toNat_lt⟩).1
theorem rgood_ok (z : UInt8) : Sh.rectoref1_good (z.toNat : Int) = some (goodN z.toNat) := (good_all ⟨z.toNat, z.toNat_lt⟩).2
def partS (s : List UInt8) : Bool := !(decide (s = []) || decide (s = [46]) || decide (s = [46, 46])) && s.all fun z => goodN z.toNat
theorem all_snoc {α : Type} (p : α → Bool) (l : List α) (z : α) : (l ++ [z]).all p = (l.all p && p z) := by simp
theorem all_false {α : Type} {p : α → Bool} {l : List α} {z : α} (hz : z ∈ l) (h : p z = false) : l.all p = false := by
  cases hq : l.all p with
  | false => rfl
  | true => rw [List.all_eq_true.1 hq z hz] at h; cases h
theorem part_ok {s : List UInt8} (hs : s.length ≤ 1000000000) : Sh.path_part s = some (partS s) := by
  apply Ok.eq
  unfold Sh.path_part partS
  refine ok_jnP (fun q => q = (decide (s = []) || decide (s = [46]) || decide (s = [46, 46]))) ?_ ?_
  · rintro q rfl
    generalize (decide (s = []) || decide (s = [46]) || decide (s = [46, 46])) = q
    simp only [ok_if, ok_some, ok_gd, ok_lt]
    refine ⟨fun h => by rw [h]; rfl, fun h => ⟨by omega, ?_⟩⟩
    have hq : q = false := by simpa using h
    subst hq
    rw [Bool.not_false, Bool.true_and]
    refine ok_iter (I := fun i => 0 ≤ i ∧ i ≤ s.length ∧ (s.take i.toNat).all (fun z => goodN z.toNat) = true) (μ := fun i => (s.length - i).toNat) ?_ ⟨by omega, by omega, by simp⟩
    rintro i ⟨i0, i1, i2⟩
    simp only [ok_if, ok_up, ok_bd, ok_gd, ok_go, ok_some, ok_at, good_ok]
    refine ⟨fun hi => ?_, fun hi => ?_⟩
    · obtain ⟨z, hz⟩ := at_get (l := s) i0 hi
      refine ⟨i0, z, hz, fun hb => ?_, fun hg => ⟨⟨by omega, by omega⟩, ⟨by omega, by omega, ?_⟩, by omega⟩⟩
      · exact (all_false (p := fun z : UInt8 => goodN z.toNat) (List.mem_of_getElem? hz) (by simpa using hb)).symm
      · rw [take_snoc i0 hz, all_snoc, i2]; simpa using hg
    · rw [← i2, show i.toNat = s.length by omega, List.take_length]
  · intro K hK
    simp only [ok_if]
    refine ⟨fun h => hK _ (by simp [h]), fun h1 => ⟨fun h => hK _ (by simp [h]), fun h2 => hK _ (by simp [h1, h2])⟩⟩
def checkP (p : List UInt8) : Int := if 64 < p.length then 4 else if (spl 47 p).all partS then 0 else 5
theorem pcheck_ok (p : List UInt8) : Sh.path_Check p = some (checkP p) := by
  apply Ok.eq
  unfold Sh.path_Check checkP
  simp only [ok_if, ok_some]
  refine ⟨fun h => by rw [if_pos (by omega)], fun h => ?_⟩
  rw [if_neg (by omega), split_ok 47 (by omega), Option.bind_some]
  have hpart := spl_part 47 p
  have hlen := spl_len 47 p
  have hcnt : p.count 47 ≤ p.length := List.count_le_length
  generalize spl 47 p = L at *
  refine ok_iter (I := fun i => 0 ≤ i ∧ i ≤ L.length ∧ (L.take i.toNat).all partS = true) (μ := fun i => (L.length - i).toNat) ?_ ⟨by omega, by omega, by simp⟩
  rintro i ⟨i0, i1, i2⟩
  simp only [ok_if, ok_up, ok_bd, ok_gd, ok_go, ok_some, ok_at]
  refine ⟨fun hi => ?_, fun hi => ?_⟩
  · obtain ⟨z, hz⟩ := at_get (l := L) i0 hi
    have := hpart z (List.mem_of_getElem? hz)
    refine ⟨i0, z, hz, Ok.of (part_ok (by omega)) ⟨fun hb => ?_, fun hg => ⟨⟨by omega, by omega⟩, ⟨by omega, by omega, ?_⟩, by omega⟩⟩⟩
    · rw [all_false (List.mem_of_getElem? hz) (by simpa using hb)]; rfl
    · rw [take_snoc i0 hz, all_snoc, i2]; simpa using hg
  · rw [show i.toNat = L.length by omega, List.take_length] at i2
    rw [i2]; rfl
theorem parts_ok {s : List UInt8} (hne : s ≠ []) (hs : s.length ≤ 1000000) : Sh.rectoref1_Parts s = some (spl 47 s) := by
  apply Ok.eq
  unfold Sh.rectoref1_Parts
  rw [if_neg hne, ok_lt]
  refine ok_iter (I := fun t => 0 ≤ t.2 ∧ t.2 ≤ s.length ∧ t.1 = spl 47 (s.take t.2.toNat)) (μ := fun t => (s.length - t.2).toNat) ?_ ⟨by simp, by simp, by simp [spl]⟩
  rintro ⟨o, i⟩ ⟨i0, i1, i2⟩
  dsimp only at i0 i1 i2 ⊢
  simp only [ok_jn, ok_if, ok_up, ok_bd, ok_gd, ok_lt, ok_go, ok_some, ok_at]
  refine ⟨fun hi => ?_, fun hi => ?_⟩
  · obtain ⟨z, hz⟩ := at_get (l := s) i0 hi
    obtain ⟨l, y, h1, h2⟩ := spl_snoc 47 z (s.take i.toNat)
    rw [← take_snoc i0 hz] at h2
    rw [← i2] at h1
    have hlen : o.length ≤ s.length + 1 := by
      rw [i2, spl_len]
      have : (s.take i.toNat).count 47 ≤ (s.take i.toNat).length := List.count_le_length
      rw [List.length_take] at this; omega
    subst h1
    have hl1 : (l ++ [y]).length = l.length + 1 := by simp
    refine ⟨i0, z, hz, fun hb => ?_, fun hb => ?_⟩
    · have hz10 : z = 47 := (byte_eq (n := 47) (by decide)).1 hb
      refine ⟨by simp; omega, ⟨by omega, by omega⟩, ⟨by omega, by omega, ?_⟩, by omega⟩
      rw [h2, if_pos hz10]; simp
    · have hz10 : ¬ z = 47 := fun e => hb ((byte_eq (n := 47) (by decide)).2 e)
      have hyl : y.length ≤ s.length := by
        have := spl_part 47 (s.take i.toNat) y (by rw [← i2]; simp)
        rw [List.length_take] at this; omega
      rw [at_last]
      refine ⟨⟨by omega, by omega⟩, ⟨by omega, by omega⟩, by omega, y, rfl, ⟨by omega, by omega⟩, ⟨i0, by omega, by omega⟩, ?_⟩
      rw [mid1 i0 hz]
      refine ⟨by simp; omega, by omega, y, rfl, ⟨by omega, by omega⟩, ⟨by omega, by omega, ?_⟩, by omega⟩
      rw [h2, if_neg hz10, show ((((l ++ [y]).length : Int) - 1).toNat) = l.length by simp]
      simp
  · rw [i2, show i.toNat = s.length by omega, List.take_length]
theorem rpcheck_ok (p : List UInt8) : Sh.rectoref1_Check p = some (checkP p) := by
  apply Ok.eq
  unfold Sh.rectoref1_Check checkP
  simp only [ok_if, ok_some]
  refine ⟨fun h => by rw [if_pos (by omega)], fun h => ?_⟩
  rw [if_neg (by omega)]
  by_cases hne : p = []
  · subst hne; exact Ok.of (a := (5 : Int)) rfl rfl
  rw [parts_ok hne (by omega), Option.bind_some]
  have hpart := spl_part 47 p
  have hlen := spl_len 47 p
  have hcnt : p.count 47 ≤ p.length := List.count_le_length
  generalize spl 47 p = L at *
  rw [if_neg (by omega)]
  refine ok_iter (I := fun i => 0 ≤ i ∧ i ≤ L.length ∧ (L.take i.toNat).all partS = true) (μ := fun i => (L.length - i).toNat) ?_ ⟨by omega, by omega, by simp⟩
  rintro i ⟨i0, i1, i2⟩
  simp only [ok_if, ok_up, ok_some]
  refine ⟨fun hi => ?_, fun hi => ?_⟩
  · obtain ⟨s, hs⟩ := at_get (l := L) i0 hi
    have hsl := hpart s (List.mem_of_getElem? hs)
    refine ok_jnP (fun _ => partS s = true) ?_ ?_
    · intro _ hg
      simp only [ok_gd, ok_go]
      refine ⟨⟨by omega, by omega⟩, ⟨by omega, by omega, ?_⟩, by omega⟩
      rw [take_snoc i0 hs, all_snoc, i2, hg]; rfl
    · intro K hK
      have bad : partS s = false → (5 : Int) = if L.all partS = true then 0 else 5 := fun q => by rw [all_false (List.mem_of_getElem? hs) q]; rfl
      refine ok_jnP (fun q => q = (decide (s = []) || decide (s = [46]) || decide (s = [46, 46]))) ?_ ?_
      · intro q hq
        simp only [ok_if, ok_up, ok_some]
        refine ⟨fun h => bad (by unfold partS; rw [← hq, h]; rfl), fun h => ?_⟩
        have hq' : q = false := by simpa using h
        have hP : partS s = s.all fun z => goodN z.toNat := by unfold partS; rw [← hq, hq']; simp
        refine ok_iter (I := fun k => 0 ≤ k ∧ k ≤ s.length ∧ (s.take k.toNat).all (fun z => goodN z.toNat) = true) (μ := fun k => (s.length - k).toNat) ?_ ⟨by omega, by omega, by simp⟩
        rintro k ⟨k0, k1, k2⟩
        simp only [ok_if, ok_up, ok_bd, ok_gd, ok_go, ok_some, ok_at, rgood_ok]
        refine ⟨i0, s, hs, fun hk => ?_, fun hk => hK () ?_⟩
        · obtain ⟨z, hz⟩ := at_get (l := s) k0 hk
          refine ⟨i0, s, hs, k0, z, hz, fun hb => bad ?_, fun hg => ⟨⟨by omega, by omega⟩, ⟨by omega, by omega, ?_⟩, by omega⟩⟩
          · rw [hP]; exact all_false (p := fun z : UInt8 => goodN z.toNat) (List.mem_of_getElem? hz) (by simpa using hb)
          · rw [take_snoc k0 hz, all_snoc, k2]; simpa using hg
        · rw [hP, ← k2, show k.toNat = s.length by omega, List.take_length]
      · intro K2 hK2
        simp only [ok_if, ok_bd, ok_at]
        refine ⟨i0, s, hs, fun h => hK2 _ (by simp [h]), fun h1 => ⟨i0, s, hs, fun h => hK2 _ (by simp [h]), fun h2 => ⟨i0, s, hs, hK2 _ (by simp [h1, h2])⟩⟩⟩
  · rw [show i.toNat = L.length by omega, List.take_length] at i2
    rw [i2]; rfl
def underS (p d : List UInt8) : Bool := if d = [] then !decide (p = []) else decide (d.length + 1 < p.length ∧ p.take (d.length + 1) = d ++ [47])
theorem under_ok {p d : List UInt8} (hd : d.length ≤ 1000000000) : Sh.path_Under p d = some (underS p d) := by
  apply Ok.eq
  unfold Sh.path_Under underS Sh.strings_HasPrefix Sh.internal_stringslite_HasPrefix
  simp only [ok_if, ok_some, ok_gd, ok_lt, ok_bd]
  refine ⟨fun h => by rw [if_pos h], fun h => ⟨⟨by omega, by omega⟩, fun hl => ⟨by simp; omega, ?_⟩, fun hl => ?_⟩⟩
  · rw [if_neg h]
    refine ⟨fun hp => ⟨⟨by omega, by simpa using hp⟩, ?_⟩, fun hp => ?_⟩
    · simp only [List.length_append, List.length_singleton]
      rw [show (((d.length + 1 : Nat)) : Int).toNat = d.length + 1 by omega]
      exact decide_eq_decide.2 ⟨fun q => ⟨by omega, q⟩, fun q => q.2⟩
    · simp at hp; omega
  · rw [if_neg h]
    symm; exact decide_eq_false (by omega)
theorem runder_ok {p d : List UInt8} (hd : d.length ≤ 1000000000) : Sh.rectoref1_Under p d = some (underS p d) := by
  apply Ok.eq
  unfold Sh.rectoref1_Under underS
  simp only [ok_if, ok_some, ok_gd, ok_lt, ok_bd, ok_at]
  refine ⟨fun h => by rw [if_pos h], fun h => ⟨⟨by omega, by omega⟩, fun hl => ⟨⟨by omega, by omega⟩, fun ht => ?_, fun ht => ?_⟩, fun hl => ?_⟩⟩
  · rw [if_neg h]
    rw [Int.toNat_natCast] at ht
    obtain ⟨z, hz⟩ := at_get (l := p) (i := d.length) (by omega) (by omega)
    refine ⟨by omega, z, hz, ?_⟩
    rw [Int.toNat_natCast] at hz
    rw [List.take_add_one, ht, hz]
    refine decide_eq_decide.2 ⟨fun q => ⟨by omega, ?_⟩, fun q => ?_⟩
    · have : z = 47 := (byte_eq (n := 47) (by decide)).1 q
      rw [this]; rfl
    · have := q.2
      simp at this
      rw [this]; rfl
  · rw [if_neg h]
    rw [Int.toNat_natCast] at ht
    symm
    refine decide_eq_false fun q => ht ?_
    have := congrArg (List.take d.length) q.2
    rw [List.take_take, Nat.min_eq_left (by omega), List.take_left] at this
    exact this
  · rw [if_neg h]
    symm; exact decide_eq_false (by omega)
def clashS (a b : List UInt8) : Bool := decide (a ≠ []) && decide (b ≠ []) && (underS a b || underS b a)
theorem clash_ok {a b : List UInt8} (ha : a.length ≤ 1000000000) (hb : b.length ≤ 1000000000) : Sh.path_Clash a b = some (clashS a b) := by
  apply Ok.eq
  unfold Sh.path_Clash clashS
  simp only [ok_if, ok_some, ok_bd, under_ok ha, under_ok hb]
  refine ⟨fun h => by simp [h], fun h => ⟨fun h2 => by simp [h2], fun h2 => ⟨fun h3 => by simp [h, h2, h3], fun h3 => by simp [h, h2, h3]⟩⟩⟩
theorem rclash_ok {a b : List UInt8} (ha : a.length ≤ 1000000000) (hb : b.length ≤ 1000000000) : Sh.rectoref1_Clash a b = some (clashS a b) := by
  apply Ok.eq
  unfold Sh.rectoref1_Clash clashS
  simp only [ok_if, ok_some, ok_bd, runder_ok ha, runder_ok hb]
  refine ⟨fun h => by simp [h], fun h => ⟨fun h2 => by simp [h2], fun h2 => ⟨fun h3 => by simp [h, h2, h3], fun h3 => by simp [h, h2, h3]⟩⟩⟩
end Go.S
end

section
namespace Go.S
open Go
set_option maxRecDepth 100000
theorem clone14 {l : List FilesFile} (h : l.length ≤ 4294967296) : Sh.slices_Clone_files_Row_files_File l = some l := by
  unfold Sh.slices_Clone_files_Row_files_File
  simp [lt, gd, h]
theorem clip14 (l : List FilesFile) : Sh.slices_Clip_files_Row_files_File l = some l := by
  unfold Sh.slices_Clip_files_Row_files_File
  simp [lt, gd]
theorem pcmp14 (a b : List UInt8) : Sh.path_Compare a b = some (if a < b then -1 else if b < a then 1 else 0) := by
  unfold Sh.path_Compare Sh.cmp_Compare_string Sh.cmp_isNaN_string
  simp only [Option.bind_some, decide_true, Bool.not_true, Bool.false_eq_true, if_false, Go.Proofs.bytesLess_eq, decide_eq_true_eq]
  by_cases h1 : a < b
  · simp [h1]
  · simp only [h1, if_false, decide_false, Bool.false_or]
    by_cases h2 : a = b
    · subst h2; simp [List.lt_irrefl]
    · have h3 : b < a := by
        by_cases q : b < a
        · exact q
        · exact absurd (List.le_antisymm (List.not_lt.1 q) (List.not_lt.1 h1)) h2
      simp [h2, h3]
theorem half_ok {s : Int} (h0 : 0 ≤ s) (h1 : s ≤ 4000000000) : IntKind.wrap .i64 (sHr .u64 (IntKind.wrap .u64 s) 1) = s / 2 := by
  have e1 : IntKind.wrap .u64 s = s := IntWalk.u64_in _ (by omega)
  rw [e1]
  have e2 : sHr .u64 s 1 = s / 2 := by
    unfold sHr
    show s.fdiv (2 ^ 1) = s / 2
    rw [Int.fdiv_eq_ediv_of_nonneg s (by decide)]
    rfl
  rw [e2]
  exact IntWalk.i64_in _ (by omega)
def R (l : List FilesFile) : Prop := l.Pairwise (fun a b => a.path < b.path)
theorem R.sub {l l' : List FilesFile} (h : R l) (s : l'.Sublist l) : R l' := List.Pairwise.sublist s h
theorem R.uniq {l : List FilesFile} (h : R l) {a b : FilesFile} (ha : a ∈ l) (hb : b ∈ l) (e : a.path = b.path) : a = b := by
  obtain ⟨i, hi⟩ := List.getElem?_of_mem ha
  obtain ⟨j, hj⟩ := List.getElem?_of_mem hb
  obtain ⟨hi1, hi2⟩ := List.getElem?_eq_some_iff.1 hi
  obtain ⟨hj1, hj2⟩ := List.getElem?_eq_some_iff.1 hj
  rcases Nat.lt_trichotomy i j with q | q | q
  · have := List.pairwise_iff_getElem.1 h i j hi1 hj1 q
    rw [hi2, hj2, e] at this
    exact absurd this (List.lt_irrefl _)
  · subst q; rw [← hi2, ← hj2]
  · have := List.pairwise_iff_getElem.1 h j i hj1 hi1 q
    rw [hi2, hj2, e] at this
    exact absurd this (List.lt_irrefl _)
theorem R.ext {l l' : List FilesFile} (h : R l) (h' : R l') (m : ∀ z, z ∈ l ↔ z ∈ l') : l = l' := by
  have nd : ∀ {l : List FilesFile}, R l → l.Nodup := fun {l} h => by
    unfold R at h
    exact List.Pairwise.imp (fun {a b} (q : a.path < b.path) (e : a = b) => List.lt_irrefl b.path (e ▸ q)) h
  refine List.Perm.eq_of_pairwise (le := fun a b => a.path ≤ b.path) (fun a b ha hb h1 h2 => h.uniq ha ((m b).2 hb) (List.le_antisymm h1 h2)) (h.imp fun q => List.le_of_lt q) (h'.imp fun q => List.le_of_lt q) ((List.perm_ext_iff_of_nodup (nd h) (nd h')).2 m)
def gt (l : List FilesFile) (p : List UInt8) : Option FilesFile := l.find? (fun f => decide (f.path = p))
theorem gt_some {l : List FilesFile} (h : R l) {p : List UInt8} {z : FilesFile} : gt l p = some z ↔ z ∈ l ∧ z.path = p := by
  unfold gt
  constructor
  · intro q
    exact ⟨List.mem_of_find?_eq_some q, by simpa using List.find?_some q⟩
  · rintro ⟨hz, rfl⟩
    cases hq : l.find? (fun f => decide (f.path = z.path)) with
    | none => have := List.find?_eq_none.1 hq z hz; simp at this
    | some y =>
      have h1 := List.mem_of_find?_eq_some hq
      have h2 : y.path = z.path := by simpa using List.find?_some hq
      rw [h.uniq h1 hz h2]
theorem gt_none {l : List FilesFile} {p : List UInt8} : gt l p = none ↔ ∀ z ∈ l, z.path ≠ p := by
  unfold gt
  rw [List.find?_eq_none]
  simp
structure At (x : List FilesFile) (p : List UInt8) (i : Int) : Prop where
  i0 : 0 ≤ i
  i1 : i ≤ x.length
  lo : ∀ f ∈ x.take i.toNat, f.path < p
  hi : ∀ f ∈ x.drop i.toNat, ¬ f.path < p
theorem R.take_lt {x : List FilesFile} (h : R x) {i : Nat} {z : FilesFile} (hz : x[i]? = some z) : ∀ f ∈ x.take i, f.path < z.path := fun f hf => by
  obtain ⟨j, hj⟩ := List.getElem?_of_mem hf
  rw [List.getElem?_take] at hj
  split at hj
  · next q =>
    obtain ⟨a1, a2⟩ := List.getElem?_eq_some_iff.1 hj
    obtain ⟨b1, b2⟩ := List.getElem?_eq_some_iff.1 hz
    have := List.pairwise_iff_getElem.1 h j i a1 b1 q
    rwa [a2, b2] at this
  · cases hj
theorem R.drop_gt {x : List FilesFile} (h : R x) {i : Nat} {z : FilesFile} (hz : x[i]? = some z) : ∀ f ∈ x.drop (i + 1), z.path < f.path := fun f hf => by
  obtain ⟨j, hj⟩ := List.getElem?_of_mem hf
  rw [List.getElem?_drop] at hj
  obtain ⟨a1, a2⟩ := List.getElem?_eq_some_iff.1 hj
  obtain ⟨b1, b2⟩ := List.getElem?_eq_some_iff.1 hz
  have := List.pairwise_iff_getElem.1 h i (i + 1 + j) b1 a1 (by omega)
  rwa [a2, b2] at this
theorem drop_cons' {α : Type} {x : List α} {i : Nat} {z : α} (hz : x[i]? = some z) : x.drop i = z :: x.drop (i + 1) := by
  obtain ⟨b1, b2⟩ := List.getElem?_eq_some_iff.1 hz
  rw [List.drop_eq_getElem_cons b1, b2]
theorem find14 {x : List FilesFile} (h : R x) (hb : x.length ≤ 100000000) (p : List UInt8) : Ok (Sh.files_Row_find x p) fun r => At x p r.1 ∧ (r.2 = true ↔ ∃ z, x[r.1.toNat]? = some z ∧ z.path = p) := by
  unfold Sh.files_Row_find Sh.slices_BinarySearchFunc_files_Row_files_File_string
  rw [ok_bd]
  refine ok_iter (I := fun t => 0 ≤ t.1 ∧ t.1 ≤ t.2 ∧ t.2 ≤ x.length ∧ (∀ f ∈ x.take t.1.toNat, f.path < p) ∧ (∀ f ∈ x.drop t.2.toNat, ¬ f.path < p)) (μ := fun t => (t.2 - t.1).toNat) ?_ ⟨by simp, by simp, by simp, by simp, by simp⟩
  rintro ⟨i, j⟩ ⟨i0, i1, i2, i3, i4⟩
  dsimp only at i0 i1 i2 i3 i4 ⊢
  simp only [ok_if, ok_up, ok_gd]
  refine ⟨fun hij => ⟨⟨by omega, by omega⟩, ?_⟩, fun hij => ?_⟩
  · rw [half_ok (by omega) (by omega)]
    obtain ⟨z, hz⟩ := at_get (l := x) (i := (i + j) / 2) (by omega) (by omega)
    rw [ok_bd, ok_at]
    refine ⟨by omega, z, hz, ?_⟩
    unfold Sh.files_Row_find_1
    rw [pcmp14, Option.bind_some, Option.bind_some]
    simp only [ok_if, ok_gd, ok_go]
    refine ⟨fun hc => ⟨⟨by omega, by omega⟩, ⟨by omega, by omega, by omega, fun f hf => ?_, i4⟩, by omega⟩, fun hc => ⟨⟨i0, by omega, by omega, i3, fun f hf => ?_⟩, by omega⟩⟩
    · have hzp : z.path < p := by
        by_cases q : z.path < p
        · exact q
        · rw [if_neg q] at hc; split at hc <;> omega
      rw [show ((i + j) / 2 + 1).toNat = ((i + j) / 2).toNat + 1 by omega, List.take_add_one, hz] at hf
      rcases List.mem_append.1 hf with q | q
      · exact List.lt_trans (h.take_lt hz f q) hzp
      · have : f = z := by simpa using q
        rw [this]; exact hzp
    · have hzp : ¬ z.path < p := fun q => hc (by rw [if_pos q]; omega)
      rw [drop_cons' hz] at hf
      rcases List.mem_cons.1 hf with q | q
      · rw [q]; exact hzp
      · intro hlt
        exact hzp (List.lt_trans (h.drop_gt hz f q) hlt)
  · have hji : j = i := by omega
    subst hji
    simp only [ok_bd, ok_at, ok_some]
    refine ⟨fun hl => ?_, fun hl => ⟨⟨i0, i2, i3, i4⟩, ?_⟩⟩
    · obtain ⟨z, hz⟩ := at_get (l := x) i0 hl
      refine ⟨i0, z, hz, ?_⟩
      unfold Sh.files_Row_find_1
      rw [pcmp14, Option.bind_some, ok_some]
      refine ⟨⟨i0, i2, i3, i4⟩, ?_⟩
      rw [decide_eq_true_eq]
      have hnl : ¬ z.path < p := i4 z (by rw [drop_cons' hz]; exact List.mem_cons_self ..)
      rw [if_neg hnl]
      constructor
      · intro q
        refine ⟨z, hz, ?_⟩
        by_cases hp : p < z.path
        · rw [if_pos hp] at q; omega
        · exact List.le_antisymm (List.not_lt.1 hp) (List.not_lt.1 hnl)
      · rintro ⟨y, hy, rfl⟩
        rw [hz] at hy; cases hy
        rw [if_neg (List.lt_irrefl _)]
    · simp only [Bool.false_eq_true, false_iff]
      rintro ⟨z, hz, _⟩
      have := get_lt hz
      omega
theorem At.none {x : List FilesFile} {p : List UInt8} {i : Int} (h : R x) (a : At x p i) (hn : ¬ ∃ z, x[i.toNat]? = some z ∧ z.path = p) : ∀ z ∈ x, z.path ≠ p := fun z hz e => by
  rw [← List.take_append_drop i.toNat x] at hz
  rcases List.mem_append.1 hz with q | q
  · exact List.lt_irrefl p (e ▸ a.lo z q)
  · obtain ⟨y, hy⟩ : ∃ y, x[i.toNat]? = some y := by
      cases hq : x[i.toNat]? with
      | some y => exact ⟨y, rfl⟩
      | none =>
        have := List.getElem?_eq_none_iff.1 hq
        rw [List.drop_of_length_le this] at q; cases q
    have hyp : y.path ≠ p := fun e' => hn ⟨y, hy, e'⟩
    rw [drop_cons' hy] at q
    rcases List.mem_cons.1 q with q | q
    · rw [q] at e; exact hyp e
    · have h1 := h.drop_gt hy z q
      rw [e] at h1
      have h2 := a.hi y (by rw [drop_cons' hy]; exact List.mem_cons_self ..)
      exact h2 h1
def getF (x : List FilesFile) (p : List UInt8) : FilesFile × Bool := match gt x p with | some f => (f, true) | none => (⟨[], 0, []⟩, false)
theorem getF_some {x : List FilesFile} {p : List UInt8} {f : FilesFile} (h : gt x p = some f) : getF x p = (f, true) := by unfold getF; rw [h]
theorem getF_none {x : List FilesFile} {p : List UInt8} (h : gt x p = none) : getF x p = (⟨[], 0, []⟩, false) := by unfold getF; rw [h]
theorem get14 {x : List FilesFile} (h : R x) (hb : x.length ≤ 100000000) (p : List UInt8) : Sh.files_Row_Get x p = some (getF x p) := by
  apply Ok.eq
  unfold Sh.files_Row_Get
  refine ok_bd.2 ((find14 h hb p).mono fun r ⟨ha, hr⟩ => ?_)
  simp only [ok_if, ok_some]
  refine ⟨fun hn => ?_, fun hn => ?_⟩
  · have hf : ¬ r.2 = true := by simpa using hn
    have := ha.none h fun q => hf (hr.2 q)
    rw [getF_none (gt_none.2 this)]
  · have hf : r.2 = true := by simpa using hn
    obtain ⟨z, hz, hp⟩ := hr.1 hf
    rw [ok_bd, ok_at]
    refine ⟨ha.i0, z, hz, ?_⟩
    rw [ok_some, getF_some ((gt_some h).2 ⟨List.mem_of_getElem? hz, hp⟩)]
def putF (r : List FilesFile) (f : FilesFile) : List FilesFile := r.filter (fun z => decide (z.path < f.path)) ++ [f] ++ r.filter (fun z => decide (f.path < z.path))
theorem put14 {x : List FilesFile} (h : R x) (hb : x.length ≤ 100000000) (f : FilesFile) : Sh.files_Row_Put x f = some (putF x f) := by
  apply Ok.eq
  unfold Sh.files_Row_Put
  rw [clone14 (by omega), Option.bind_some]
  refine ok_bd.2 ((find14 h hb f.path).mono fun r ⟨ha, hr⟩ => ?_)
  have hlo : x.filter (fun z => decide (z.path < f.path)) = x.take r.1.toNat := by
    conv => lhs; rw [← List.take_append_drop r.1.toNat x, List.filter_append]
    rw [List.filter_eq_self.2 fun z hz => decide_eq_true (ha.lo z hz), List.filter_eq_nil_iff.2 fun z hz => by simpa using ha.hi z hz, List.append_nil]
  have hlo2 : (x.take r.1.toNat).filter (fun z => decide (f.path < z.path)) = [] := List.filter_eq_nil_iff.2 fun z hz => by
    have := ha.lo z hz
    simp only [decide_eq_true_eq]
    exact fun q => List.lt_irrefl _ (List.lt_trans q this)
  simp only [ok_if]
  refine ⟨fun hf => ?_, fun hf => ?_⟩
  · obtain ⟨z, hz, hp⟩ := hr.1 hf
    have hlt := get_lt hz
    rw [ok_bd, ok_at]
    refine ⟨ha.i0, z, hz, ?_⟩
    simp only [ok_lt]
    rw [clip14, Option.bind_some, ok_some]
    unfold putF
    have hhi : x.filter (fun z => decide (f.path < z.path)) = x.drop (r.1.toNat + 1) := by
      conv => lhs; rw [← List.take_append_drop r.1.toNat x, List.filter_append, hlo2, List.nil_append, drop_cons' hz]
      rw [List.filter_cons_of_neg (by rw [hp]; simp [List.lt_irrefl])]
      exact List.filter_eq_self.2 fun y hy => decide_eq_true (by rw [← hp]; exact h.drop_gt hz y hy)
    rw [hlo, hhi]
    apply List.ext_getElem?
    intro j
    rw [List.getElem?_set]
    have hlen : (x.take r.1.toNat).length = r.1.toNat := by rw [List.length_take]; omega
    split
    · next q =>
      subst q
      rw [List.append_assoc, List.getElem?_append_right (by omega), hlen, Nat.sub_self]
      first | rw [if_pos hlt]; rfl | rfl
    · next q =>
      by_cases hj : j < r.1.toNat
      · rw [List.append_assoc, List.getElem?_append_left (by omega), List.getElem?_take, if_pos hj]
      · rw [List.append_assoc, List.getElem?_append_right (by omega), hlen, show j - r.1.toNat = (j - r.1.toNat - 1) + 1 by omega]
        simp only [List.singleton_append, List.getElem?_cons_succ, List.getElem?_drop]
        congr 1; omega
  · have hn := ha.none h fun q => hf (hr.2 q)
    simp only [ok_lt, ok_gd]
    refine ⟨⟨⟨ha.i0, ha.i1⟩, by simp, by simp; omega⟩, ?_⟩
    rw [clip14, Option.bind_some, ok_some]
    unfold putF
    have hhi : x.filter (fun z => decide (f.path < z.path)) = x.drop r.1.toNat := by
      conv => lhs; rw [← List.take_append_drop r.1.toNat x, List.filter_append, hlo2, List.nil_append]
      refine List.filter_eq_self.2 fun y hy => decide_eq_true ?_
      by_cases q : f.path < y.path
      · exact q
      · exact absurd (List.le_antisymm (List.not_lt.1 q) (List.not_lt.1 (ha.hi y hy))) (hn y (List.mem_of_mem_drop hy))
    rw [hlo, hhi]
end Go.S
end

section
namespace Go.S
open Go
def vF (f : FilesFile) : Prop := checkP f.path = 0 ∧ (f.mode = 1 ∨ f.mode = 2) ∧ f.data.length ≤ 4096
structure GoodF (x : List FilesFile) : Prop where
  v : ∀ f ∈ x, vF f
  r : R x
  c : x.Pairwise (fun a b => clashS a.path b.path = false)
theorem GoodF.sub {l l' : List FilesFile} (h : GoodF l) (s : l'.Sublist l) : GoodF l' := ⟨fun f hf => h.v f (s.subset hf), h.r.sub s, List.Pairwise.sublist s h.c⟩
theorem fix14 (l : List FilesFile) (f : FilesFile) (hb : l.length ≤ 1000000000) (hl : ∀ z ∈ l, z.path.length ≤ 1000000000) (hf : f.path.length ≤ 1000000000) : Ok (Sh.slices_ContainsFunc_files_Row_files_File l f) (fun b => b = l.any fun y => clashS y.path f.path) := by
  unfold Sh.slices_ContainsFunc_files_Row_files_File Sh.slices_IndexFunc_files_Row_files_File
  rw [ok_bd]
  refine (ixloop (fun y => clashS y.path f.path) l hb (fun y => Sh.files_Row_wrong_1 y f) (fun y hy => ?_) _ fun i => rfl).mono fun r hr => ?_
  · unfold Sh.files_Row_wrong_1
    rw [clash_ok (hl y hy) hf]; rfl
  · rw [ok_some, fst_any hr]
theorem cut14 {l : List FilesFile} (p : List UInt8) (hb : l.length ≤ 1000000000) : Sh.files_Row_Cut l p = some (l.filter fun z => !decide (z.path = p)) := by
  unfold Sh.files_Row_Cut
  rw [clone14 (by omega), Option.bind_some]
  have hix : Ok (Sh.slices_IndexFunc_files_Row_files_File_v2 l p) (Fst (fun z => decide (z.path = p)) l) := by
    unfold Sh.slices_IndexFunc_files_Row_files_File_v2
    exact ixloop (fun z => decide (z.path = p)) l hb (fun z => Sh.files_Row_Cut_1 z p) (fun z hz => rfl) _ fun i => rfl
  have : Sh.slices_DeleteFunc_files_Row_files_File l p = some (l.filter fun z => !decide (z.path = p)) := by
    unfold Sh.slices_DeleteFunc_files_Row_files_File
    exact del_ok (fun z => decide (z.path = p)) l hb (fun z => Sh.files_Row_Cut_1 z p) (fun z hz => rfl) _ hix _ fun t => rfl
  rw [this, Option.bind_some, clip14]
  rfl
theorem clear14 {l : List FilesFile} (p : List UInt8) (hb : l.length ≤ 1000000000) (hl : ∀ z ∈ l, z.path.length ≤ 1000000000) (hp : p.length ≤ 1000000000) : Sh.files_Row_Clear l p = some (l.filter fun z => !clashS z.path p) := by
  unfold Sh.files_Row_Clear
  rw [clone14 (by omega), Option.bind_some]
  have hF : ∀ z ∈ l, Sh.files_Row_Clear_1 z p = some (clashS z.path p) := fun z hz => by
    unfold Sh.files_Row_Clear_1
    rw [clash_ok (hl z hz) hp]; rfl
  have hix : Ok (Sh.slices_IndexFunc_files_Row_files_File_v3 l p) (Fst (fun z => clashS z.path p) l) := by
    unfold Sh.slices_IndexFunc_files_Row_files_File_v3
    exact ixloop (fun z => clashS z.path p) l hb (fun z => Sh.files_Row_Clear_1 z p) hF _ fun i => rfl
  have : Sh.slices_DeleteFunc_files_Row_files_File_v2 l p = some (l.filter fun z => !clashS z.path p) := by
    unfold Sh.slices_DeleteFunc_files_Row_files_File_v2
    exact del_ok (fun z => clashS z.path p) l hb (fun z => Sh.files_Row_Clear_1 z p) hF _ hix _ fun t => rfl
  rw [this, Option.bind_some, clip14]
  rfl
theorem few14 (l : List FilesFile) : Ok (Sh.rectolaw14_Few l) fun b => b = true → l.length ≤ 80 ∧ ∀ f ∈ l, f.path.length ≤ 100 := by
  unfold Sh.rectolaw14_Few
  simp only [ok_if, ok_some]
  refine ⟨fun _ h => (by cases h), fun hl => ?_⟩
  refine ok_iter (I := fun i => 0 ≤ i ∧ i ≤ l.length ∧ ∀ f ∈ l.take i.toNat, f.path.length ≤ 100) (μ := fun i => (l.length - i).toNat) ?_ ⟨by omega, by omega, by simp⟩
  rintro i ⟨i0, i1, i2⟩
  simp only [ok_if, ok_up, ok_some]
  refine ⟨fun hi => ?_, fun hi _ => ⟨by omega, by rw [List.take_of_length_le (by omega)] at i2; exact i2⟩⟩
  obtain ⟨z, hz⟩ := at_get (l := l) i0 hi
  refine ok_jnP (fun b => b = false → z.path.length ≤ 100) ?_ ?_
  · intro b hb
    simp only [ok_if, ok_up, ok_gd, ok_go, ok_some]
    refine ⟨fun _ h => (by cases h), fun h => ⟨⟨by omega, by omega⟩, ⟨by omega, by omega, fun f hf => ?_⟩, by omega⟩⟩
    rw [take_snoc i0 hz] at hf
    rcases List.mem_append.1 hf with q | q
    · exact i2 f q
    · rw [List.mem_singleton.1 q]; exact hb (by simpa using h)
  · intro K hK
    simp only [ok_bd, ok_at, ok_if]
    exact ⟨i0, z, hz, fun _ => hK _ fun h => (by cases h), fun h => ⟨i0, z, hz, hK _ fun _ => by omega⟩⟩
end Go.S
end

section
namespace Go.S
open Go
end Go.S
end

section
namespace Go.S
open Go
theorem filter2_len {α : Type} (p q : α → Bool) (l : List α) (h : ∀ z ∈ l, p z = true → q z = false) : (l.filter p).length + (l.filter q).length ≤ l.length := by
  induction l with
  | nil => simp
  | cons a r ih =>
    have ih' := ih fun z hz => h z (List.mem_cons_of_mem _ hz)
    have ha := h a (List.mem_cons_self ..)
    cases hp : p a with
    | true => have hq := ha hp; simp [List.filter_cons, hp, hq]; omega
    | false => cases hq : q a <;> simp [List.filter_cons, hp, hq] <;> omega
theorem putF_len1 (x : List FilesFile) (f : FilesFile) : (putF x f).length ≤ x.length + 1 := by
  unfold putF
  have := filter2_len (fun z : FilesFile => decide (z.path < f.path)) (fun z => decide (f.path < z.path)) x (fun z _ h => by
    have h' : z.path < f.path := of_decide_eq_true h
    exact decide_eq_false fun q => List.lt_irrefl _ (List.lt_trans h' q))
  simp only [List.length_append, List.length_cons, List.length_nil]; omega
end Go.S
end

section
namespace Go.S
open Go
def toF (f : FilesFile) : Rectoref14File := ⟨f.path, f.mode, f.data⟩
def ofF (f : Rectoref14File) : FilesFile := ⟨f.path, f.mode, f.data⟩
theorem mapF_at {l : List FilesFile} {i : Nat} {z : FilesFile} (h : l[i]? = some z) : (l.map toF)[i]? = some (toF z) := by rw [List.getElem?_map, h]; rfl
theorem toF_inj {a b : List FilesFile} (h : a.map toF = b.map toF) : a = b := by
  have := congrArg (List.map ofF) h
  rw [List.map_map, List.map_map, show ofF ∘ toF = id from rfl, List.map_id, List.map_id] at this
  exact this
theorem of14 (l : List FilesFile) (hb : l.length ≤ 1000000000) : Sh.rectolaw14_Of l = some (l.map toF) := by
  apply Ok.eq
  unfold Sh.rectolaw14_Of
  refine ok_iter (I := fun t => 0 ≤ t.2 ∧ t.2 ≤ l.length ∧ t.1 = (l.take t.2.toNat).map toF) (μ := fun t => (l.length - t.2).toNat) ?_ ⟨by simp, by simp, by simp⟩
  rintro ⟨o, i⟩ ⟨i0, i1, i2⟩
  dsimp only at i0 i1 i2 ⊢
  have hol : o.length ≤ i.toNat := by rw [i2, List.length_map, List.length_take]; omega
  simp only [ok_if, ok_up, ok_bd, ok_at, ok_lt, ok_gd, ok_go, ok_some]
  refine ⟨fun hi => ?_, fun hi => ?_⟩
  · obtain ⟨z, hz⟩ := at_get (l := l) i0 hi
    refine ⟨i0, z, hz, i0, z, hz, i0, z, hz, by simp; omega, ⟨by omega, by omega⟩, ⟨by omega, by omega, ?_⟩, by omega⟩
    rw [i2, take_snoc i0 hz, List.map_append]; rfl
  · rw [i2, List.take_of_length_le (by omega)]
abbrev loF (x : List FilesFile) (f : FilesFile) : List FilesFile := x.filter (fun z => decide (z.path < f.path))
abbrev hiF (x : List FilesFile) (f : FilesFile) : List FilesFile := x.filter (fun z => decide (f.path < z.path))
theorem putr14 {x : List FilesFile} (h : R x) (hb : x.length ≤ 100000000) (f : FilesFile) : Sh.rectoref14_Put (x.map toF) (toF f) = some ((putF x f).map toF) := by
  apply Ok.eq
  unfold Sh.rectoref14_Put
  refine ok_iter (I := fun t => 0 ≤ t.2.2 ∧ t.2.2 ≤ x.length ∧ t.1 = (loF (x.take t.2.2.toNat) f ++ (if t.2.1 = true then [f] else []) ++ hiF (x.take t.2.2.toNat) f).map toF ∧ (t.2.1 = false → ∀ z ∈ x.take t.2.2.toNat, z.path < f.path) ∧ (t.2.1 = true → ∀ z ∈ x.drop t.2.2.toNat, f.path < z.path)) (μ := fun t => (x.length - t.2.2).toNat) ?_ ⟨by simp, by simp, by simp, by simp, by simp⟩
  rintro ⟨o, u, i⟩ ⟨i0, i1, i2, i3, i4⟩
  dsimp only at i0 i1 i2 i3 i4 ⊢
  have hl1 : (loF (x.take i.toNat) f).length ≤ _ := List.length_filter_le (fun z : FilesFile => decide (z.path < f.path)) (x.take i.toNat)
  have hl2 : (hiF (x.take i.toNat) f).length ≤ _ := List.length_filter_le (fun z : FilesFile => decide (f.path < z.path)) (x.take i.toNat)
  have hl4 : (loF (x.take i.toNat) f).length + (hiF (x.take i.toNat) f).length ≤ (x.take i.toNat).length := filter2_len _ _ _ (fun z _ h => by
    have h' : z.path < f.path := of_decide_eq_true h
    exact decide_eq_false fun q => List.lt_irrefl _ (List.lt_trans h' q))
  have hl3 : (x.take i.toNat).length ≤ x.length := by rw [List.length_take]; omega
  have hol : ∀ (v : Bool), ((loF (x.take i.toNat) f ++ (if v = true then [f] else []) ++ hiF (x.take i.toNat) f).map toF).length ≤ 2 * x.length + 1 := by
    intro v
    rw [List.length_map, List.length_append, List.length_append]
    cases v <;> simp only [if_true, if_false, Bool.false_eq_true, List.length_cons, List.length_nil] <;> omega
  simp only [ok_if, ok_up, List.length_map]
  refine ⟨fun hi => ?_, fun hi => ?_⟩
  · obtain ⟨z, hz⟩ := at_get (l := x) i0 hi
    have hzm := mapF_at hz
    have hdz : x.drop i.toNat = z :: x.drop (i + 1).toNat := by rw [show (i + 1).toNat = i.toNat + 1 by omega]; exact drop_cons' hz
    have hgz : ∀ y ∈ x.drop (i + 1).toNat, z.path < y.path := by rw [show (i + 1).toNat = i.toNat + 1 by omega]; exact h.drop_gt hz
    have hsn := take_snoc i0 hz
    refine ok_jnP (fun w => w.1 = (loF (x.take (i + 1).toNat) f ++ (if w.2 = true then [f] else []) ++ hiF (x.take (i + 1).toNat) f).map toF ∧ (w.2 = false → ∀ z ∈ x.take (i + 1).toNat, z.path < f.path) ∧ (w.2 = true → ∀ z ∈ x.drop (i + 1).toNat, f.path < z.path)) ?_ ?_
    · rintro ⟨w1, w2⟩ ⟨a1, a2, a3⟩
      simp only [ok_gd, ok_go]
      exact ⟨⟨by omega, by omega⟩, ⟨by omega, by omega, a1, a2, a3⟩, by omega⟩
    · intro K7 hK7
      refine ok_jnP (fun w => w.1 = (loF (x.take i.toNat) f ++ (if w.2 = true then [f] else []) ++ hiF (x.take i.toNat) f).map toF ∧ (w.2 = false → z.path < f.path ∧ ∀ z ∈ x.take i.toNat, z.path < f.path) ∧ (w.2 = true → ¬ z.path < f.path)) ?_ ?_
      · rintro ⟨w1, w2⟩ ⟨a1, a2, a3⟩
        dsimp only at a1 a2 a3 ⊢
        have hw := hol w2
        rw [← a1] at hw
        simp only [ok_bd, ok_at, ok_if, ok_lt, ok_gd]
        refine ⟨i0, toF z, hzm, fun he => ?_, fun he => ⟨i0, toF z, hzm, by simp; omega, ?_⟩⟩
        · have he : z.path = f.path := he
          have hw2 : w2 = true := by
            cases w2 with
            | true => rfl
            | false => have := (a2 rfl).1; rw [he] at this; exact absurd this (List.lt_irrefl _)
          refine hK7 _ ⟨?_, fun q => absurd q (by rw [hw2]; simp), fun _ y hy => (by rw [← he]; exact hgz y hy)⟩
          rw [a1, hsn]
          simp [List.filter_append, he, List.lt_irrefl]
        · have he : ¬ z.path = f.path := he
          cases w2 with
          | true =>
            have hnz := a3 rfl
            have hfz : f.path < z.path := by
              by_cases q : f.path < z.path
              · exact q
              · exact absurd (List.le_antisymm (List.not_lt.1 q) (List.not_lt.1 hnz)) he
            refine hK7 _ ⟨?_, fun q => (by cases q), fun _ y hy => List.lt_trans hfz (hgz y hy)⟩
            rw [a1, hsn]
            simp [List.filter_append, hnz, hfz, toF]
          | false =>
            obtain ⟨b1, b2⟩ := a2 rfl
            have hnf : ¬ f.path < z.path := fun q => List.lt_irrefl _ (List.lt_trans q b1)
            have hnil : hiF (x.take i.toNat) f = [] := List.filter_eq_nil_iff.2 fun y hy => by
              have := b2 y hy
              simp only [decide_eq_true_eq]
              exact fun q => List.lt_irrefl _ (List.lt_trans q this)
            refine hK7 _ ⟨?_, fun _ y hy => ?_, fun q => (by cases q)⟩
            · rw [a1, hsn]
              have hnil' : (x.take i.toNat).filter (fun z => decide (f.path < z.path)) = [] := hnil
              simp [List.filter_append, b1, hnf, hnil', toF]
            · rw [hsn] at hy
              rcases List.mem_append.1 hy with q | q
              · exact b2 y q
              · rw [List.mem_singleton.1 q]; exact b1
      · intro K10 hK10
        refine ok_jnP (fun w => w = true ↔ u = false ∧ ¬ z.path < f.path) ?_ ?_
        · intro w hw
          have hwo := hol u
          rw [← i2] at hwo
          simp only [ok_if, ok_lt, ok_gd]
          refine ⟨fun q => ?_, fun q => ?_⟩
          · obtain ⟨hu, hnz⟩ := hw.1 q
            refine ⟨by simp; omega, hK10 _ ⟨?_, fun q => (by cases q), fun _ => hnz⟩⟩
            have hnil : (x.take i.toNat).filter (fun z => decide (f.path < z.path)) = [] := List.filter_eq_nil_iff.2 fun y hy => by
              have := i3 hu y hy
              simp only [decide_eq_true_eq]
              exact fun q => List.lt_irrefl _ (List.lt_trans q this)
            rw [i2, hu]
            simp [hnil, toF]
          · refine hK10 _ ⟨i2, fun hu => ?_, fun hu => ?_⟩
            · refine ⟨?_, i3 hu⟩
              by_cases hz' : z.path < f.path
              · exact hz'
              · exact absurd (hw.2 ⟨hu, hz'⟩) q
            · have := i4 hu z (by rw [hdz]; exact List.mem_cons_self ..)
              exact fun q => List.lt_irrefl _ (List.lt_trans q this)
        · intro K12 hK12
          simp only [ok_if, ok_bd, ok_at, Go.Proofs.bytesLess_eq]
          refine ⟨fun hu => ⟨i0, toF z, hzm, hK12 _ ?_⟩, fun hu => hK12 _ ?_⟩
          · have : (toF z).path = z.path := rfl
            have h2 : (toF f).path = f.path := rfl
            rw [this, h2]
            simp at hu
            simp [hu]
          · simp at hu
            simp [hu]
  · rw [List.take_of_length_le (by omega)] at i2 i3
    have hw := hol u
    rw [List.take_of_length_le (l := x) (by omega)] at hw
    rw [← i2] at hw
    simp only [ok_lt, ok_gd, ok_some]
    unfold putF
    cases u with
    | true =>
      refine ⟨fun h => (by simp at h), fun _ => ?_⟩
      rw [i2]; simp
    | false =>
      have hnil : x.filter (fun z => decide (f.path < z.path)) = [] := List.filter_eq_nil_iff.2 fun y hy => by
        have := i3 rfl y hy
        simp only [decide_eq_true_eq]
        exact fun q => List.lt_irrefl _ (List.lt_trans q this)
      refine ⟨fun _ => ⟨by simp; omega, ?_⟩, fun h => absurd rfl h⟩
      rw [i2]; simp [hnil, toF]
theorem getr14 (x : List FilesFile) (hb : x.length ≤ 1000000000) (p : List UInt8) : Sh.rectoref14_Get (x.map toF) p = some (toF (getF x p).1, (getF x p).2) := by
  apply Ok.eq
  unfold Sh.rectoref14_Get
  refine ok_iter (I := fun i => 0 ≤ i ∧ i ≤ x.length ∧ ∀ z ∈ x.take i.toNat, z.path ≠ p) (μ := fun i => (x.length - i).toNat) ?_ ⟨by omega, by omega, by simp⟩
  rintro i ⟨i0, i1, i2⟩
  simp only [ok_if, ok_up, ok_bd, ok_at, ok_gd, ok_go, ok_some, List.length_map]
  refine ⟨fun hi => ?_, fun hi => ?_⟩
  · obtain ⟨z, hz⟩ := at_get (l := x) i0 hi
    refine ⟨i0, toF z, mapF_at hz, fun hp => ⟨i0, toF z, mapF_at hz, ?_⟩, fun hp => ⟨⟨by omega, by omega⟩, ⟨by omega, by omega, fun y hy => ?_⟩, by omega⟩⟩
    · have hp : z.path = p := hp
      have : gt x p = some z := by
        unfold gt
        rw [← List.take_append_drop i.toNat x, List.find?_append, List.find?_eq_none.2 (fun y hy => by simpa using i2 y hy), drop_cons' hz]
        simp [hp]
      rw [getF_some this]
    · rw [take_snoc i0 hz] at hy
      rcases List.mem_append.1 hy with q | q
      · exact i2 y q
      · rw [List.mem_singleton.1 q]; exact hp
  · rw [List.take_of_length_le (by omega)] at i2
    rw [getF_none (gt_none.2 i2)]
    try rfl
theorem samer14 (a b : List FilesFile) (la : a.length ≤ 1000000000) : Sh.rectoref14_Same (a.map toF) (b.map toF) = some (decide (a = b)) := by
  unfold Sh.rectoref14_Same
  have hd : decide (a.map toF = b.map toF) = decide (a = b) := decide_eq_decide.2 ⟨toF_inj, fun h => by rw [h]⟩
  rw [← hd]
  split
  · next h => exact eqloop (fun z w => z.path = w.path ∧ z.mode = w.mode ∧ z.data = w.data) (fun z w => by cases z; cases w; simp) _ _ h (by simp; omega) _ fun i => rfl
  · next h => exact congrArg some (decide_eq_false fun e => h (by rw [e])).symm
end Go.S
end

section
namespace Go.S
theorem gl_at {α : Type} {l : List α} {i : Int} (h0 : 0 ≤ i) (h : i < l.length) : ∃ z, l[i.toNat]? = some z := ⟨_, List.getElem?_eq_getElem (by omega)⟩
theorem gl_snoc {α : Type} {l : List α} {i : Int} {z : α} (h0 : 0 ≤ i) (h : l[i.toNat]? = some z) : l.take (i + 1).toNat = l.take i.toNat ++ [z] := by
  rw [show (i + 1).toNat = i.toNat + 1 by omega, List.take_add_one, h]; rfl
theorem gl_atv {α : Type} {l : List α} {i : Int} {z : α} (h0 : 0 ≤ i) (h : l[i.toNat]? = some z) : at_ l i = some z := by
  unfold at_; rw [if_pos h0, h]
theorem gl_map {α β : Type} (f : α → β) {l : List α} {i : Nat} {z : α} (h : l[i]? = some z) : (l.map f)[i]? = some (f z) := by rw [List.getElem?_map, h]; rfl
def Nx {T R : Type} (t : T) (y : T ⊕ R) : Prop := y = .inl t
def Up {T R : Type} (Q : R → Prop) (y : T ⊕ R) : Prop := ∃ r, y = .inr r ∧ Q r
theorem nx_go {T R : Type} {t t' : T} (h : t' = t) : Ok (go t' : Option (T ⊕ R)) (Nx t) := ⟨_, rfl, by rw [h]; rfl⟩
theorem nx_gd {T R : Type} {c : Prop} [Decidable c] {t t' : T} (hc : c) (h : t' = t) : Ok (gd c (go t' : Option (T ⊕ R))) (Nx t) := ok_gd.2 ⟨hc, nx_go h⟩
theorem up_up {T R : Type} {o : Option R} {Q : R → Prop} (h : Ok o Q) : Ok (up o : Option (T ⊕ R)) (Up Q) := ok_up.2 (h.mono fun r hr => ⟨r, rfl, hr⟩)
theorem gl_fold {α τ R : Type} {Q : R → Prop} (l : List α) (f : τ → α → τ) (t0 : τ) (B : τ × Int → Option ((τ × Int) ⊕ R))
    (hB : ∀ (i : Int) z, 0 ≤ i → i < l.length → l[i.toNat]? = some z → ∀ s, s = (l.take i.toNat).foldl f t0 → Ok (B (s, i)) (Nx (f s z, i + 1)))
    (hE : ∀ s, s = l.foldl f t0 → Ok (B (s, (l.length : Int))) (Up Q)) : Ok (iter B (t0, 0)) Q := by
  refine ok_iter (I := fun t => 0 ≤ t.2 ∧ t.2 ≤ l.length ∧ t.1 = (l.take t.2.toNat).foldl f t0) (μ := fun t => (l.length - t.2).toNat) ?_ ⟨by dsimp only; omega, by dsimp only; omega, by simp⟩
  rintro ⟨t, i⟩ ⟨i0, i1, i2⟩
  dsimp only at i0 i1 i2 ⊢
  by_cases hi : i < l.length
  · obtain ⟨z, hz⟩ := gl_at i0 hi
    refine (hB i z i0 hi hz t i2).mono ?_
    rintro y hy
    cases hy
    refine ⟨⟨by dsimp only; omega, by dsimp only; omega, ?_⟩, by dsimp only; omega⟩
    show _ = (l.take (i + 1).toNat).foldl f t0
    rw [gl_snoc i0 hz, List.foldl_append, i2]; rfl
  · have e : i = l.length := by omega
    subst e
    rw [List.take_of_length_le (by omega)] at i2
    refine (hE t i2).mono ?_
    rintro y ⟨r, rfl, hr⟩
    exact hr
theorem gl_flat {α β : Type} (g : α → List β) : ∀ (l : List α) (a : List β), l.foldl (fun a z => a ++ g z) a = a ++ l.flatMap g
  | [], a => by simp
  | z :: r, a => by rw [List.foldl_cons, gl_flat g r, List.flatMap_cons, List.append_assoc]
theorem gl_fm {α β : Type} (p : α → Bool) (g : α → β) : ∀ l : List α, l.flatMap (fun z => if p z = true then [g z] else []) = (l.filter p).map g
  | [] => rfl
  | z :: r => by
    rw [List.flatMap_cons, gl_fm p g r, List.filter_cons]
    split <;> simp
theorem gl_app {α β R : Type} {Q : R → Prop} (l : List α) (p : α → Bool) (g : α → β) (a : List β) (B : List β × Int → Option ((List β × Int) ⊕ R))
    (hB : ∀ (i : Int) z, 0 ≤ i → i < l.length → l[i.toNat]? = some z → ∀ s, s.length ≤ a.length + i.toNat → Ok (B (s, i)) (Nx ((if p z = true then s ++ [g z] else s), i + 1)))
    (hE : ∀ s, s = a ++ (l.filter p).map g → Ok (B (s, (l.length : Int))) (Up Q)) : Ok (iter B (a, 0)) Q := by
  have hf : ∀ m : List α, m.foldl (fun a z => a ++ (if p z = true then [g z] else [])) a = a ++ (m.filter p).map g := fun m => by
    rw [gl_flat (fun z => if p z = true then [g z] else []), gl_fm]
  refine gl_fold l (fun s z => s ++ (if p z = true then [g z] else [])) a B (fun i z i0 hi hz s hs => ?_) (fun s hs => hE s (by rw [hs, hf]))
  have hl : s.length ≤ a.length + i.toNat := by
    rw [hs, hf, List.length_append, List.length_map]
    have := List.length_filter_le p (l.take i.toNat)
    rw [List.length_take] at this
    omega
  have := hB i z i0 hi hz s hl
  split at this
  · next q => simpa [q] using this
  · next q => simpa [q] using this
end Go.S
end

section
namespace Go.S
open Go
def ordF (x : List FilesFile) (i : Int) (z : FilesFile) : Bool := match x[(i - 1).toNat]? with
  | some y => decide (0 < i) && !decide (y.path < z.path)
  | none => false
def causeF (z : FilesFile) : Int := if checkP z.path = 0 then (if z.mode = 1 ∨ z.mode = 2 then (if 4096 < z.data.length then 4 else 0) else 1) else checkP z.path
def codeF (x : List FilesFile) (i : Int) (z : FilesFile) : Int := if causeF z = 0 then (if ordF x i z = true then 6 else if ((x.take i.toNat).any fun y => clashS y.path z.path) = true then 11 else 0) else causeF z
theorem ord_pos {x : List FilesFile} {i : Int} {y z : FilesFile} (h : 0 < i) (hy : x[(i - 1).toNat]? = some y) : ordF x i z = !decide (y.path < z.path) := by
  unfold ordF; rw [hy]; simp [h]
theorem ord_zero {x : List FilesFile} {i : Int} {z : FilesFile} (h : ¬ 0 < i) : ordF x i z = false := by
  unfold ordF
  split
  · simp [h]
  · rfl
theorem pcmp0 (a b : List UInt8) : Ok (Sh.path_Compare a b) fun n => decide (0 ≤ n) = !decide (a < b) := by
  refine ⟨_, pcmp14 a b, ?_⟩
  by_cases h1 : a < b
  · simp [h1]
  · by_cases h2 : b < a <;> simp [h1, h2]
theorem wrongF {x : List FilesFile} (hb : x.length ≤ 1000000) (hl : ∀ z ∈ x, z.path.length ≤ 1000000000) {i : Int} (i0 : 0 ≤ i) (hi : i < x.length) {z : FilesFile} (hz : x[i.toNat]? = some z) : Ok (Sh.files_Row_wrong x i) fun e => e = codeF x i z := by
  unfold Sh.files_Row_wrong
  have hzm := List.mem_of_getElem? hz
  rw [gl_atv i0 hz, Option.bind_some, pcheck_ok, Option.bind_some]
  have e0 : ∀ v : Int, (checkP z.path = 0 → v = codeF x i z) → (¬ checkP z.path = 0 → v = checkP z.path) → v = codeF x i z := fun v h1 h2 => by
    by_cases h : checkP z.path = 0
    · exact h1 h
    · rw [h2 h]
      unfold codeF causeF
      rw [if_neg h, if_neg h]
  rw [ok_if]
  refine ⟨fun hc => ?_, fun hc => ok_some.2 (e0 _ (fun h => absurd h hc) fun _ => rfl)⟩
  refine ok_jnP (fun b => b = !decide (z.mode = 1 ∨ z.mode = 2)) ?_ ?_
  · rintro b rfl
    by_cases hm : z.mode = 1 ∨ z.mode = 2
    · rw [if_neg (by simp [hm]), ok_if]
      refine ⟨fun hd => ok_some.2 ?_, fun hd => ?_⟩
      · have hcf : causeF z = 4 := by
          unfold causeF
          rw [if_pos hc, if_pos hm, if_pos (show 4096 < z.data.length by omega)]
        unfold codeF
        rw [hcf, if_neg (show ¬ (4 : Int) = 0 by omega)]
      · have hcf : causeF z = 0 := by
          unfold causeF
          rw [if_pos hc, if_pos hm, if_neg (by omega)]
        refine ok_jnP (fun b => b = ordF x i z) ?_ ?_
        · rintro b rfl
          unfold codeF
          rw [if_pos hcf]
          cases ho : ordF x i z with
          | true => rw [if_pos rfl]; exact ok_some.2 (by rw [if_pos rfl])
          | false =>
            rw [if_neg (by simp), if_neg (by simp)]
            refine ok_gd.2 ⟨⟨i0, by omega⟩, ok_lt.2 (ok_bd.2 ((fix14 (x.take i.toNat) z (by rw [List.length_take]; omega) (fun y hy => hl y (List.mem_of_mem_take hy)) (hl z hzm)).mono fun v hv => ?_))⟩
            rw [hv, ok_if]
            exact ⟨fun q => ok_some.2 (by rw [if_pos q]), fun q => ok_some.2 (by rw [if_neg q])⟩
        · intro K hK
          rw [ok_if]
          refine ⟨fun hp => ok_gd.2 ⟨⟨by omega, by omega⟩, ?_⟩, fun hp => hK _ (ord_zero hp).symm⟩
          obtain ⟨y, hy⟩ := gl_at (l := x) (i := i - 1) (by omega) (by omega)
          rw [gl_atv (by omega) hy, Option.bind_some]
          refine ok_bd.2 ((pcmp0 y.path z.path).mono fun n hn => hK _ ?_)
          rw [hn, ord_pos hp hy]
    · rw [if_pos (by simp [hm])]
      refine ok_some.2 ?_
      have hcf : causeF z = 1 := by
        unfold causeF
        rw [if_pos hc, if_neg hm]
      unfold codeF
      rw [hcf, if_neg (show ¬ (1 : Int) = 0 by omega)]
  · intro K hK
    rw [ok_if]
    exact ⟨fun h => hK _ (by simp [h]), fun h => hK _ (by simp [h])⟩
def errF (w : List UInt8) : Option (Int × Int) → Err
  | none => Err.nil
  | some (k, c) => Err.fault w k (Err.no c)
def wrgF (w : List UInt8) : Option (Int × Int) → Rectoref3WrongP
  | none => ⟨[], 0⟩
  | some (k, c) => ⟨[⟨w, k⟩], c⟩
def Res {α : Type} (x : List α) (code : Int → α → Int) (r : Option (Int × Int)) : Prop :=
  (r = none ∧ ∀ (k : Nat) z, x[k]? = some z → code k z = 0) ∨ ∃ (k : Nat) (z : α), r = some ((k : Int), code k z) ∧ x[k]? = some z ∧ code k z ≠ 0 ∧ ∀ (j : Nat) y, j < k → x[j]? = some y → code j y = 0
theorem Res.uniq {α : Type} {x : List α} {code : Int → α → Int} {r r' : Option (Int × Int)} (h : Res x code r) (h' : Res x code r') : r = r' := by
  rcases h with ⟨rfl, h⟩ | ⟨k, z, rfl, hz, hc, hj⟩
  · rcases h' with ⟨rfl, _⟩ | ⟨k, z, rfl, hz, hc, _⟩
    · rfl
    · exact absurd (h k z hz) hc
  · rcases h' with ⟨rfl, h'⟩ | ⟨k', z', rfl, hz', hc', hj'⟩
    · exact absurd (h' k z hz) hc
    · rcases Nat.lt_trichotomy k k' with q | q | q
      · exact absurd (hj' k z q hz) hc
      · subst q; rw [hz] at hz'; cases hz'; rfl
      · exact absurd (hj k' z' q hz') hc'
theorem Res.loop {α R : Type} {x : List α} (code : Int → α → Int) (B : Int → Option (Int ⊕ R)) (out : Option (Int × Int) → R)
    (hB : ∀ (i : Int) z, 0 ≤ i → i < x.length → x[i.toNat]? = some z → Ok (B i) fun y => (code i z = 0 ∧ y = .inl (i + 1)) ∨ (code i z ≠ 0 ∧ y = .inr (out (some (i, code i z)))))
    (hE : B (x.length : Int) = up (some (out none))) : Ok (iter B 0) fun e => ∃ r, Res x code r ∧ e = out r := by
  refine ok_iter (I := fun i => 0 ≤ i ∧ i ≤ x.length ∧ ∀ (j : Nat) y, (j : Int) < i → x[j]? = some y → code j y = 0) (μ := fun i => (x.length - i).toNat) ?_ ⟨by omega, by omega, fun j y h => by omega⟩
  rintro i ⟨i0, i1, i2⟩
  by_cases hi : i < x.length
  · obtain ⟨z, hz⟩ := gl_at i0 hi
    have ei : ((i.toNat : Nat) : Int) = i := by omega
    refine (hB i z i0 hi hz).mono ?_
    rintro y (⟨hc, rfl⟩ | ⟨hc, rfl⟩)
    · refine ⟨⟨by omega, by omega, fun j y hj hy => ?_⟩, by omega⟩
      by_cases q : (j : Int) < i
      · exact i2 j y q hy
      · have : j = i.toNat := by omega
        subst this
        rw [hz] at hy; cases hy
        rw [ei]; exact hc
    · refine ⟨_, .inr ⟨i.toNat, z, ?_, hz, ?_, fun j y hj hy => i2 j y (by omega) hy⟩, rfl⟩
      · rw [ei]
      · rw [ei]; exact hc
  · have e : i = x.length := by omega
    subst e
    rw [hE]
    refine ok_up.2 (ok_some.2 ⟨none, .inl ⟨rfl, fun k z hz => i2 k z ?_ hz⟩, rfl⟩)
    have := (List.getElem?_eq_some_iff.1 hz).1
    omega
theorem checkE {x : List FilesFile} (hb : x.length ≤ 1000000) (hl : ∀ z ∈ x, z.path.length ≤ 1000000000) (h64 : x.length ≤ 64) : Ok (Sh.files_Row_Check x) fun e => ∃ r, Res x (codeF x) r ∧ e = errF [102, 105, 108, 101] r := by
  unfold Sh.files_Row_Check
  rw [if_neg (by omega)]
  refine Res.loop (codeF x) _ (errF [102, 105, 108, 101]) ?_ ?_
  · intro i z i0 hi hz
    rw [if_pos hi]
    refine ok_bd.2 ((wrongF hb hl i0 hi hz).mono fun e he => ?_)
    subst he
    rw [ok_if]
    exact ⟨fun q => ok_gd.2 ⟨⟨by omega, by omega⟩, ok_go.2 (.inl ⟨q, rfl⟩)⟩, fun q => ok_up.2 (ok_some.2 (.inr ⟨q, rfl⟩))⟩
  · rw [if_neg (by omega)]; rfl
theorem rcauseF (f : FilesFile) : Sh.rectoref14_Cause (⟨f.path, f.mode, f.data⟩ : Rectoref14File) = some (causeF f) := by
  have hm : Sh.rectoref14_Mode f.mode = some (decide (f.mode = 1 ∨ f.mode = 2)) := by
    unfold Sh.rectoref14_Mode
    by_cases h : f.mode = 1 <;> simp [h]
  unfold Sh.rectoref14_Cause causeF
  rw [rpcheck_ok, Option.bind_some]
  by_cases hc : checkP f.path = 0
  · rw [if_pos hc, if_pos hc]
    dsimp only
    rw [hm, Option.bind_some]
    by_cases q : f.mode = 1 ∨ f.mode = 2
    · rw [if_neg (by simp [q]), if_pos q]
      by_cases d : 4096 < f.data.length
      · rw [if_pos (by omega), if_pos d]
      · rw [if_neg (by omega), if_neg d]
    · rw [if_pos (by simp [q]), if_neg q]
  · rw [if_neg hc, if_neg hc]
theorem rcheckE {x : List FilesFile} (hl : ∀ z ∈ x, z.path.length ≤ 1000000) (h64 : x.length ≤ 64) : Ok (Sh.rectoref14_Check (x.map toF)) fun w => ∃ r, Res x (codeF x) r ∧ w = wrgF [102, 105, 108, 101] r := by
  unfold Sh.rectoref14_Check
  have hlen : (x.map toF).length = x.length := List.length_map ..
  simp only [hlen]
  rw [if_neg (by omega)]
  refine Res.loop (codeF x) _ (wrgF [102, 105, 108, 101]) ?_ ?_
  · intro i z i0 hi hz
    have hzm := List.mem_of_getElem? hz
    have hzp := hl z hzm
    rw [if_pos hi, gl_atv i0 (gl_map toF hz), Option.bind_some]
    show Ok ((Sh.rectoref14_Cause (⟨z.path, z.mode, z.data⟩ : Rectoref14File)).bind _) _
    rw [rcauseF z, Option.bind_some]
    refine ok_jnP (fun e => e = if causeF z = 0 then (if ordF x i z = true then 6 else 0) else causeF z) ?_ ?_
    · rintro e rfl
      refine ok_jnP (fun e => e = codeF x i z) ?_ ?_
      · rintro e rfl
        rw [ok_if]
        refine ⟨fun q => ok_gd.2 ⟨⟨by omega, by omega⟩, ok_go.2 (.inl ⟨q, rfl⟩)⟩, fun q => ?_⟩
        have ea : Sh.rectoref3_At [102, 105, 108, 101] i (codeF x i z) = some ⟨[⟨[102, 105, 108, 101], i⟩], codeF x i z⟩ := rfl
        rw [ea, Option.bind_some]
        exact ok_up.2 (ok_some.2 (.inr ⟨q, rfl⟩))
      · intro K hK
        generalize he0 : (if causeF z = 0 then (if ordF x i z = true then 6 else 0) else causeF z) = e0
        by_cases h0 : e0 = 0
        · subst h0
          have hcf : causeF z = 0 ∧ ordF x i z = false := by
            by_cases q : causeF z = 0
            · rw [if_pos q] at he0
              cases ho : ordF x i z with
              | false => exact ⟨q, rfl⟩
              | true => rw [ho, if_pos rfl] at he0; omega
            · rw [if_neg q] at he0; exact absurd he0 q
          refine ok_iter (I := fun t => 0 ≤ t.2 ∧ t.2 ≤ i ∧ ((t.1 = 0 ∧ ∀ y ∈ x.take t.2.toNat, clashS y.path z.path = false) ∨ (t.1 = 11 ∧ (x.take i.toNat).any (fun y => clashS y.path z.path) = true))) (μ := fun t => (i - t.2).toNat) ?_ ⟨by dsimp only; omega, by dsimp only; omega, .inl ⟨rfl, by simp⟩⟩
          rintro ⟨e, k⟩ ⟨k0, k1, hk2⟩
          dsimp only at k0 k1 hk2 ⊢
          by_cases hk : k < i
          · rw [if_pos hk]
            rcases hk2 with ⟨rfl, hk2⟩ | ⟨rfl, hk2⟩
            · obtain ⟨w, hw⟩ := gl_at (l := x) k0 (by omega)
              have hwm := List.mem_of_getElem? hw
              have hwp := hl w hwm
              have hcl : Sh.rectoref1_Clash (toF w).path (toF z).path = some (clashS w.path z.path) := rclash_ok (a := w.path) (by omega) (by show z.path.length ≤ _; omega)
              rw [if_pos rfl]
              refine ok_jnP (fun e => (e = 0 ∧ clashS w.path z.path = false) ∨ (e = 11 ∧ clashS w.path z.path = true)) ?_ ?_
              · rintro e he
                refine ok_gd.2 ⟨⟨by omega, by omega⟩, ok_go.2 ⟨⟨by dsimp only; omega, by dsimp only; omega, ?_⟩, by dsimp only; omega⟩⟩
                rcases he with ⟨rfl, hq⟩ | ⟨rfl, hq⟩
                · refine .inl ⟨rfl, fun v hv => ?_⟩
                  rw [gl_snoc k0 hw] at hv
                  rcases List.mem_append.1 hv with q | q
                  · exact hk2 v q
                  · rw [List.mem_singleton.1 q]; exact hq
                · refine .inr ⟨rfl, List.any_eq_true.2 ⟨w, ?_, hq⟩⟩
                  exact List.mem_of_getElem? (i := k.toNat) (by rw [List.getElem?_take, if_pos (by omega)]; exact hw)
              · intro K2 hK2
                rw [gl_atv k0 (gl_map toF hw), Option.bind_some, Option.bind_some, hcl, Option.bind_some, ok_if]
                exact ⟨fun q => hK2 _ (.inr ⟨rfl, q⟩), fun q => hK2 _ (.inl ⟨rfl, by simpa using q⟩)⟩
            · rw [if_neg (by omega)]
              refine ok_up.2 (hK _ ?_)
              unfold codeF
              rw [if_pos hcf.1, hcf.2, if_neg (by simp), if_pos hk2]
          · have ek : k = i := by omega
            subst ek
            rw [if_neg hk]
            refine ok_up.2 (hK _ ?_)
            unfold codeF
            rw [if_pos hcf.1, hcf.2, if_neg (by simp)]
            rcases hk2 with ⟨rfl, hk2⟩ | ⟨rfl, hk2⟩
            · rw [if_neg (by simp; exact fun y hy => by simpa using hk2 y hy)]
            · rw [if_pos hk2]
        · refine ok_iter (I := fun t => t.1 = e0 ∧ t.2 = 0) (μ := fun _ => 0) ?_ ⟨rfl, rfl⟩
          rintro ⟨e, k⟩ ⟨he, hk⟩
          dsimp only at he hk ⊢
          subst he hk
          have hcd : e = codeF x i z := by
            unfold codeF
            by_cases q : causeF z = 0
            · rw [if_pos q] at he0 ⊢
              cases ho : ordF x i z with
              | false => rw [ho, if_neg (by simp)] at he0; exact absurd he0.symm h0
              | true => rw [ho, if_pos rfl] at he0; rw [if_pos rfl, he0]
            · rw [if_neg q] at he0 ⊢; exact he0.symm
          rw [ok_if]
          refine ⟨fun _ => ?_, fun _ => ok_up.2 (hK _ hcd)⟩
          rw [if_neg h0]
          exact ok_up.2 (hK _ hcd)
    · intro K hK
      refine ok_jnP (fun b => b = (decide (causeF z = 0) && ordF x i z)) ?_ ?_
      · rintro b rfl
        rw [ok_if]
        refine ⟨fun q => hK _ ?_, fun q => hK _ ?_⟩
        · simp only [Bool.and_eq_true, decide_eq_true_eq] at q
          rw [if_pos q.1, if_pos q.2]
        · by_cases c : causeF z = 0
          · have : ordF x i z = false := by simpa [c] using q
            rw [if_pos c, this, if_neg (by simp)]; exact c
          · rw [if_neg c]
      · intro K2 hK2
        by_cases c : causeF z = 0
        · rw [if_pos c]
          by_cases hp : 0 < i
          · obtain ⟨w, hw⟩ := gl_at (l := x) (i := i - 1) (by omega) (by omega)
            rw [if_pos hp]
            refine ok_gd.2 ⟨⟨by omega, by omega⟩, ?_⟩
            rw [gl_atv (by omega) (gl_map toF hw), Option.bind_some, Option.bind_some]
            refine hK2 _ ?_
            rw [ord_pos hp hw]
            show (!Op.bytesLess w.path z.path) = _
            rw [Go.Proofs.bytesLess_eq, decide_eq_true c, Bool.true_and]
          · rw [if_neg hp]; exact hK2 _ (by rw [ord_zero hp]; simp)
        · rw [if_neg c]; exact hK2 _ (by simp [c])
  · rw [if_neg (by omega)]; rfl
end Go.S
end

section
namespace Go.S
open Go
theorem rcut20 (l : List FilesFile) (p : List UInt8) (hb : l.length ≤ 100000000) : Sh.rectoref14_Cut (l.map toF) p = some ((l.filter fun z => !decide (z.path = p)).map toF) := by
  apply Ok.eq
  unfold Sh.rectoref14_Cut
  have hlen : (l.map toF).length = l.length := List.length_map ..
  simp only [hlen]
  refine gl_app l (fun z => !decide (z.path = p)) toF [] _ ?_ ?_
  · intro i z i0 hi hz s hs
    simp only [List.length_nil] at hs
    dsimp only
    rw [if_pos hi]
    refine ok_jnP (fun o => o = if (!decide (z.path = p)) = true then s ++ [toF z] else s) ?_ ?_
    · rintro o rfl
      exact nx_gd ⟨by omega, by omega⟩ rfl
    · intro K hK
      rw [gl_atv i0 (gl_map toF hz), Option.bind_some]
      by_cases q : z.path = p
      · rw [if_pos (show (toF z).path = p from q)]
        exact hK _ (by rw [if_neg (by simp [q])])
      · rw [if_neg (show ¬ (toF z).path = p from q), Option.bind_some]
        simp only [ok_lt, ok_gd]
        exact ⟨by simp only [List.length_cons, List.length_nil]; omega, hK _ (by rw [if_pos (by simp [q])])⟩
  · intro s hs
    dsimp only
    rw [if_neg (by omega)]
    exact up_up (ok_some.2 hs)
theorem rclear20 (l : List FilesFile) (p : List UInt8) (hb : l.length ≤ 100000000) (hl : ∀ z ∈ l, z.path.length ≤ 1000000) (hp : p.length ≤ 1000000) : Sh.rectoref14_Clear (l.map toF) p = some ((l.filter fun z => !clashS z.path p).map toF) := by
  apply Ok.eq
  unfold Sh.rectoref14_Clear
  have hlen : (l.map toF).length = l.length := List.length_map ..
  simp only [hlen]
  refine gl_app l (fun z => !clashS z.path p) toF [] _ ?_ ?_
  · intro i z i0 hi hz s hs
    simp only [List.length_nil] at hs
    dsimp only
    rw [if_pos hi]
    refine ok_jnP (fun o => o = if (!clashS z.path p) = true then s ++ [toF z] else s) ?_ ?_
    · rintro o rfl
      exact nx_gd ⟨by omega, by omega⟩ rfl
    · intro K hK
      have hzp := hl z (List.mem_of_getElem? hz)
      have hc : Sh.rectoref1_Clash (toF z).path p = some (clashS z.path p) := rclash_ok (a := z.path) (by omega) (by omega)
      rw [gl_atv i0 (gl_map toF hz), Option.bind_some, hc, Option.bind_some]
      generalize clashS z.path p = c at hK ⊢
      cases c with
      | true =>
        rw [if_neg (by simp)]
        exact hK _ (by rw [if_neg (by simp)])
      | false =>
        rw [if_pos (by rfl), Option.bind_some]
        simp only [ok_lt, ok_gd]
        exact ⟨by simp only [List.length_cons, List.length_nil]; omega, hK _ (by rw [if_pos (by rfl)])⟩
  · intro s hs
    dsimp only
    rw [if_neg (by omega)]
    exact up_up (ok_some.2 hs)
end Go.S
end

section
namespace Go.S
open Go
def fileS : List UInt8 := [102, 105, 108, 101]
theorem known14 : Sh.rectolaw14_known = some true := by decide +kernel
theorem tells64 : ∀ p : Fin 65, ∀ c : Fin 14, Sh.rectolaw2_Tells (.fault fileS (p.val : Int) (.no ((c.val : Int) + 1))) ⟨[⟨fileS, (p.val : Int)⟩], (c.val : Int) + 1⟩ = some true := by decide +kernel
theorem tells0 : Sh.rectolaw2_Tells .nil ⟨[], 0⟩ = some true := by decide +kernel
theorem tellsF {r : Option (Int × Int)} (h : ∀ p c, r = some (p, c) → 0 ≤ p ∧ p ≤ 64 ∧ 1 ≤ c ∧ c ≤ 14) : Sh.rectolaw2_Tells (errF fileS r) (wrgF fileS r) = some true := by
  cases r with
  | none => exact tells0
  | some k =>
    obtain ⟨p, c⟩ := k
    obtain ⟨h1, h2, h3, h4⟩ := h p c rfl
    have := tells64 ⟨p.toNat, by omega⟩ ⟨(c - 1).toNat, by omega⟩
    dsimp only at this
    rw [show ((p.toNat : Nat) : Int) = p by omega, show (((c - 1).toNat : Nat) : Int) + 1 = c by omega] at this
    exact this
theorem checkP_code (p : List UInt8) : 0 ≤ checkP p ∧ checkP p ≤ 14 := by
  unfold checkP
  repeat' split
  all_goals omega
theorem codeF_rng (x : List FilesFile) (k : Int) (z : FilesFile) : 0 ≤ codeF x k z ∧ codeF x k z ≤ 14 := by
  have hp := checkP_code z.path
  unfold codeF causeF
  repeat' split
  all_goals omega
theorem checkTells {x : List FilesFile} (hb : x.length ≤ 1000000) (hl : ∀ z ∈ x, z.path.length ≤ 1000000) : ∃ e w, Sh.files_Row_Check x = some e ∧ Sh.rectoref14_Check (x.map toF) = some w ∧ Sh.rectolaw2_Tells e w = some true := by
  by_cases h : x.length ≤ 64
  · obtain ⟨e, he, r, hr, rfl⟩ := checkE hb (fun z hz => by have := hl z hz; omega) h
    obtain ⟨w, hw, r', hr', rfl⟩ := rcheckE hl h
    cases hr.uniq hr'
    refine ⟨_, _, he, hw, tellsF ?_⟩
    rintro p c rfl
    rcases hr with ⟨q, _⟩ | ⟨k, z, q, hz, hc, _⟩
    · cases q
    · cases q
      have h1 := codeF_rng x k z
      have h2 := (List.getElem?_eq_some_iff.1 hz).1
      omega
  · refine ⟨.fault fileS 64 (.no 4), ⟨[⟨fileS, 64⟩], 4⟩, ?_, ?_, ?_⟩
    · unfold Sh.files_Row_Check
      rw [if_pos (by omega)]; rfl
    · unfold Sh.rectoref14_Check
      rw [if_pos (by rw [List.length_map]; omega)]; rfl
    · exact tellsF (r := some (64, 4)) (by rintro p c ⟨⟩; omega)
theorem R_snoc {x : List FilesFile} {i : Int} (i0 : 0 ≤ i) {z : FilesFile} (hz : x[i.toNat]? = some z) (hg : R (x.take i.toNat)) (hr : ∀ y, 0 < i → x[(i - 1).toNat]? = some y → y.path < z.path) : R (x.take (i + 1).toNat) := by
  rw [take_snoc i0 hz]
  refine List.pairwise_append.2 ⟨hg, List.pairwise_singleton _ _, fun a ha b hb => ?_⟩
  rw [List.mem_singleton.1 hb]
  have hpos : 0 < i := by
    rcases Int.lt_or_le 0 i with q | q
    · exact q
    · rw [show i.toNat = 0 by omega] at ha; simp at ha
  have hil := get_lt hz
  obtain ⟨y, hy⟩ := at_get (l := x) (i := i - 1) (by omega) (by omega)
  have hyz := hr y hpos hy
  have he : x.take i.toNat = x.take (i - 1).toNat ++ [y] := by
    have := take_snoc (l := x) (i := i - 1) (by omega) hy
    rwa [show i - 1 + 1 = i by omega] at this
  rw [he] at ha
  rcases List.mem_append.1 ha with q | q
  · have hR := hg
    rw [he] at hR
    have := (List.pairwise_append.1 hR).2.2 a q y (List.mem_singleton_self _)
    exact List.lt_trans this hyz
  · rw [List.mem_singleton.1 q]; exact hyz
theorem rises14 (l : List FilesFile) (hb : l.length ≤ 1000000000) : Ok (Sh.rectolaw14_Rises l) fun b => b = true → R l := by
  unfold Sh.rectolaw14_Rises
  refine ok_iter (I := fun i => 1 ≤ i ∧ i ≤ l.length + 1 ∧ R (l.take i.toNat)) (μ := fun i => (l.length - i).toNat) ?_ ⟨by omega, by omega, ?_⟩
  · rintro i ⟨i0, i1, i2⟩
    simp only [ok_if, ok_up, ok_gd, ok_go, ok_some, ok_bd, ok_at, Go.Proofs.bytesLess_eq]
    refine ⟨fun hi => ?_, fun hi _ => by rw [List.take_of_length_le (by omega)] at i2; exact i2⟩
    obtain ⟨y, hy⟩ := at_get (l := l) (i := i - 1) (by omega) (by omega)
    obtain ⟨z, hz⟩ := at_get (l := l) (i := i) (by omega) hi
    refine ⟨⟨by omega, by omega⟩, by omega, y, hy, by omega, z, hz, fun _ h => (by cases h), fun h => ⟨⟨by omega, by omega⟩, ⟨by omega, by omega, R_snoc (by omega) hz i2 fun w _ hw => ?_⟩, by omega⟩⟩
    rw [hy] at hw; cases hw
    simpa using h
  · cases l <;> simp [R]
theorem filt_len {α : Type} (p : α → Bool) (l : List α) : (l.filter p).length ≤ l.length := List.length_filter_le ..
theorem same_self {a b : List FilesFile} (la : a.length ≤ 1000000000) (h : a = b) : Sh.rectoref14_Same (a.map toF) (b.map toF) = some true := by
  subst h
  rw [samer14 a a la]; simp
theorem rowAny_ok (r : List FilesFile) (f : FilesFile) : Sh.rectolaw14_RowAny r f = some true := by
  apply Ok.eq
  unfold Sh.rectolaw14_RowAny
  rw [known14, Option.bind_some, if_neg (by simp)]
  refine ok_jnP (fun x => x = false → r.length ≤ 80 ∧ (∀ z ∈ r, z.path.length ≤ 100) ∧ f.path.length ≤ 100) ?_ ?_
  · intro x hx
    rw [ok_if]
    refine ⟨fun _ => ok_some.2 rfl, fun q => ?_⟩
    obtain ⟨h1, h2, h3⟩ := hx (by simpa using q)
    have hp : ∀ z ∈ r, z.path.length ≤ 1000000 := fun z hz => by have := h2 z hz; omega
    obtain ⟨e, w, c1, c2, c3⟩ := checkTells (x := r) (by omega) hp
    rw [of14 r (by omega), Option.bind_some, c1, Option.bind_some, c2, Option.bind_some, c3, Option.bind_some, if_neg (by simp)]
    refine ok_bd.2 ((rises14 r (by omega)).mono fun b hb => ?_)
    rw [ok_if]
    refine ⟨fun _ => ok_some.2 rfl, fun q2 => ?_⟩
    have hR := hb (by simpa using q2)
    have hpl := putF_len1 r f
    rw [get14 hR (by omega), Option.bind_some, getr14 r (by omega), Option.bind_some]
    rw [if_pos (by rfl), if_pos (by rfl), if_pos (by rfl), if_pos (by rfl)]
    have ef : (⟨f.path, f.mode, f.data⟩ : FilesFile) = f := rfl
    have ef2 : (⟨f.path, f.mode, f.data⟩ : Rectoref14File) = toF f := rfl
    rw [ef, ef2, put14 hR (by omega), Option.bind_some, of14 _ (by omega), Option.bind_some, putr14 hR (by omega), Option.bind_some, same_self (by omega) rfl, Option.bind_some, if_pos rfl]
    have l1 := filt_len (fun z : FilesFile => !decide (z.path = f.path)) r
    have l2 := filt_len (fun z : FilesFile => !clashS z.path f.path) r
    rw [cut14 f.path (by omega), Option.bind_some, of14 _ (by omega), Option.bind_some, rcut20 r f.path (by omega), Option.bind_some, same_self (by omega) rfl, Option.bind_some, if_pos rfl]
    rw [clear14 f.path (by omega) (fun z hz => by have := h2 z hz; omega) (by omega), Option.bind_some, of14 _ (by omega), Option.bind_some, rclear20 r f.path (by omega) hp (by omega), Option.bind_some, same_self (by omega) rfl, Option.bind_some, if_pos rfl]
    rw [Option.bind_some, same_self (by omega) rfl, Option.bind_some, ok_some]
  · intro K hK
    refine ok_bd.2 ((few14 r).mono fun b hb => ?_)
    rw [ok_if]
    refine ⟨fun _ => hK _ fun h => (by cases h), fun q => ?_⟩
    obtain ⟨h1, h2⟩ := hb (by simpa using q)
    rw [ok_if]
    exact ⟨fun _ => hK _ fun h => (by cases h), fun h3 => hK _ fun _ => ⟨h1, h2, by omega⟩⟩
end Go.S
end
