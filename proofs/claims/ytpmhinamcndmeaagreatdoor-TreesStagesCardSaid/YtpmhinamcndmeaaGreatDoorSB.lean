/- Part of the proofs of: What clashes keeps all three trees in their stages: for all trees. -/
import Derived.Shelf.Bits.Mul64
import Derived.Test.YtpmhinamcndmeaaGreatDoorProg
import Derived.Lib.Bytealg
import Derived.Test.YtpmhinamcndmeaaGreatDoorSA
set_option linter.unusedVariables false
set_option linter.unusedSimpArgs false
set_option linter.unusedSectionVars false
section
namespace Go.Proofs.YtpmhinamcndmeaaGreatDoor
open Go.RowKit Go.V
open Go.P hiding Str
theorem agg451 : AggOf Tryz.prog 451 2 := aggOf_of Tryz.underlying451 rfl (by kernel_rfl)
theorem fa451_0 : FieldAt Tryz.prog 451 0 0 := fieldAt_sz (n := 0) (f := ⟨_, _, 0, _, _, _, _⟩) Tryz.underlying451 rfl (by kernel_rfl)
theorem lit434 : ((Tryz.prog.info? 434).map fun i => (i.size, i.zero.isSome)) = some (3, true) := by kernel_rfl
theorem app434 : ((Tryz.prog.info? 434).map fun i => (i.size, i.bytes, (i.zero.map fun z => z.cells.size))) = some (3, 24, some 3) := by kernel_rfl
theorem fa434_2 : FieldAt Tryz.prog 434 2 2 := fieldAt_sz (n := 0) (f := ⟨_, _, 2, _, _, _, _⟩) Tryz.underlying434 rfl (by kernel_rfl)
set_option maxRecDepth 100000 in
 theorem matches_ct (a b : Sv Str) (ha : a.l.length ≤ 256) (hb : b.l.length ≤ 256) :
 Ct Tryz.prog 371 [a.val, b.val] (a.ok.and b.ok) Ow.emp (X := Sv Mat) (fun q => .tuple #[q.val, .nilIface]) (fun q => q.l = mats (edits a.l b.l)) (fun q => q.ok) (fun _ => Ow.emp) := by
 refine Ct.of Tryz.func371 rfl (by kernel_rfl) Tryz.ntmps371 (by simp) fun c => ?_
 refine Zq (Zr ?_)
 refine Za ?_
 refine Za ?_
 refine Zl ?_
 refine Zq (Zr ?_)
 refine Zm ?_
 refine Zm ?_
 refine VL.callF (lines_ct a b ha hb) rfl (by decide) ?_
 rintro l hl
 refine Zm ?_
 refine VL.q (q_extract rfl rfl) (by decide) ?_
 refine VL.q (q_extract rfl rfl) (by decide) ?_
 refine Za ?_
 refine Za ?_
 refine Zl ?_
 refine Zq (Zq (Zr ?_))
 refine Zm ?_
 refine VL.q (q_nilne Tryz.underlying27 rfl) (by decide) ?_
 refine Zl ?_
 refine VC.cond_f rfl ?_
 refine Zk ?_
 refine Zq (Zr ?_)
 refine Za ?_
 refine Zl ?_
 refine Zq (Zr ?_)
 refine Za ?_
 refine Za ?_
 refine Za ?_
 refine Zl ?_
 refine Zq (Zq ?_)
 have hll := edits_len a.l b.l
 rw [← hl] at hll
 refine Zr ?_
 refine Zm ?_
 refine VL.q (q_ln (s := l) Tryz.underlying448 rfl) (by decide) ?_
 refine Zm ?_
 refine Zl ?_
 refine Zb ?_
 refine VC.nilO (⟨none, 0, []⟩ : Sv Mat) 434 ⟨rfl, rfl⟩ ?_
 refine VC.loopK (S := Int × Int × Int × Bool × Sv Mat) (fun sg => MInv l.l sg.1 sg.2.1 sg.2.2.1 sg.2.2.2.1 sg.2.2.2.2.l) (fun sg => [(0, a.val), (1, b.val), (4, .slice none 0 0), (5, .nilIface), (6, l.val), (7, .nilIface), (23, l.val), (24, i64 (l.l.length : Int)), (25, i64 sg.1), (9, i64 sg.2.1), (10, i64 sg.2.2.1), (11, .bool sg.2.2.2.1), (8, sg.2.2.2.2.val)]) (fun sg => Ow.star (Sv.own sg.2.2.2.2 434) (Ow.emp)) (fun sg => (l.l.length - sg.1).toNat) (0, 0, 0, false, ⟨none, 0, []⟩) [0, 1, 4, 5, 6, 7, 23, 24, 25, 9, 10, 11, 8] (by (try dsimp only); exact ⟨rfl, (fun h => by cases h), by omega, by omega, by omega, by omega, by omega, by omega, by simp, (fun _ h => by cases h)⟩) rfl (by (try dsimp only); exact EntO.out) ?_
 rintro ⟨k, i, j, row, o⟩ hI
 show VC _ _ _ _ _ [(0, a.val), (1, b.val), (4, .slice none 0 0), (5, .nilIface), (6, l.val), (7, .nilIface), (23, l.val), (24, i64 (l.l.length : Int)), (25, i64 k), (9, i64 i), (10, i64 j), (11, .bool row), (8, o.val)] _ (Ow.star (Sv.own o 434) (Ow.emp))
 try dsimp only at hI
 have k0 := hI.k0
 have k1 := hI.k1
 have i0 := hI.i0
 have i1 := hI.i1
 have j0 := hI.j0
 have j1 := hI.j1
 have ho := hI.len
 refine Zq (Zr ?_)
 refine VL.q (q_lss rfl rfl) (by decide) ?_
 refine Zl ?_
 refine Zq ?_
 refine VC.cond_dec rfl (fun h26 => ?_) (fun h26 => ?_)
 ·
  refine Zk ?_
  refine Zq (Zb (Zq (Zr ?_)))
  obtain ⟨z27, hz27⟩ : ∃ z, l.l[(k).toNat]? = some z := ⟨_, List.getElem?_eq_getElem (by omega)⟩
  refine VL.q (q_ixm (s := l) Tryz.underlying448 sz451 rfl rfl (by omega) (by omega)) (by decide) ?_
  refine VL.q (q_els (s := l) agg451 rfl rfl hz27) (by decide) ?_
  refine VL.alloc (cs := [i64 0, str []]) (by kernel_rfl) (by decide) fun b13 => ?_
  refine VL.store (vc := [i64 z27.op, str z27.line]) (cs' := [i64 z27.op, str z27.line]) rfl rfl rfl sz451 rfl rfl (Nat.le_of_ble_eq_true rfl) rfl ?_
  refine Zl ?_
  refine Zq (Zq (Zr ?_))
  refine VL.q (q_field fa451_0 rfl) (by decide) ?_
  refine VL.q (q_fe one3 rfl rfl) (by decide) ?_
  refine VL.q (q_eql rfl rfl) (by decide) ?_
  refine Zl ?_
  refine VC.cond_dec rfl (fun h31 => ?_) (fun h31 => ?_)
  ·
   refine Zq (Zq (Zr ?_))
   refine Zm ?_
   refine VL.q (q_not rfl) (by decide) ?_
   refine Zl ?_
   refine VC.cond rfl (fun h33 => ?_) (fun h33 => ?_)
   ·
    refine Zr ?_
    refine Zm ?_
    refine Zm ?_
    refine Zm ?_
    refine VL.q (q_build (vs := [(0, i64 i), (1, i64 j)]) (cs := #[i64 i, i64 j, i64 0]) rfl (by kernel_rfl)) (by decide) ?_
    refine VL.lit (α := Mat) (xs := [.tmp 37]) (vs := [.agg #[i64 i, i64 j, i64 0]]) [⟨i, j, 0⟩] Tryz.underlying429 lit434 (by decide) rfl rfl rfl rfl (by decide) (fun _ _ _ _ => trivial) (by decide) (fun s38 hs38 => ?_) (by decide)
    refine VL.app (s := o) (r := s38) Tryz.underlying429 app434 (by decide) rfl Fo.out (by rw [hs38]; simp; omega) (by rw [hs38]; simp; omega) (by decide) (fun s39 hs39 => ?_)
    have hs39' : s39.l = o.l ++ [⟨i, j, 0⟩] := by rw [hs39, hs38]
    have hlen39 : s39.l.length = o.l.length + 1 := by rw [hs39']; simp
    refine Za ?_
    refine Zl ?_
    skip
    refine Zr ?_
    refine Zm ?_
    refine Zm ?_
    refine VL.q (q_ln (s := s39) Tryz.underlying429 rfl) (by decide) ?_
    refine VL.q (q_sub rfl rfl ⟨by omega, by omega⟩) (by decide) ?_
    obtain ⟨z44, hz44⟩ : ∃ z, s39.l[(((s39.l.length : Int) - 1)).toNat]? = some z := ⟨_, List.getElem?_eq_getElem (by omega)⟩
    refine VL.q (q_ixo (s := s39) Tryz.underlying429 sz434 rfl rfl (by omega) (by omega)) (by decide) ?_
    refine VL.q (q_field fa434_2 rfl) (by decide) ?_
    have hbd := (hI.bd.snoc hI.i0 hI.j0) z44 (List.mem_of_getElem? (by rw [← hs39']; exact hz44))
    refine VL.q (q_elfo (s := s39) one3 rfl hz44 rfl) (by decide) ?_
    refine VL.q (q_add rfl rfl ⟨by omega, by omega⟩) (by decide) ?_
    refine VL.q (q_ixo (s := s39) Tryz.underlying429 sz434 rfl rfl (by omega) (by omega)) (by decide) ?_
    refine VL.q (q_field fa434_2 rfl) (by decide) ?_
    refine VL.storeE (s := s39) (T := 434) (j := 2) (vc := [i64 (z44.n + 1)]) (⟨z44.a, z44.b, (z44.n + 1)⟩ : Mat) (by decide) rfl rfl hz44 rfl sz3 rfl rfl (Nat.le_of_ble_eq_true rfl) rfl (fun w0 hw0 haw0 hcw0 hvw0 hbw0 how0 => ?_)
    rw [← hvw0]
    refine Zl ?_
    refine Zq (Zr ?_)
    refine VL.q (q_field fa451_0 rfl) (by decide) ?_
    refine VL.q (q_fe one3 rfl rfl) (by decide) ?_
    refine VL.q (q_eql rfl rfl) (by decide) ?_
    refine Za ?_
    refine Zl ?_
    refine Zq (Zq (Zr ?_))
    refine VL.q (q_field fa451_0 rfl) (by decide) ?_
    refine VL.q (q_fe one3 rfl rfl) (by decide) ?_
    refine VL.q (q_neq rfl rfl) (by decide) ?_
    refine Zl ?_
    refine VC.cond_ndec rfl (fun h55 => ?_) (fun h55 => ?_)
    ·
     refine Zr ?_
     refine Zm ?_
     refine VL.q (q_add rfl rfl ⟨by omega, by omega⟩) (by decide) ?_
     refine Za ?_
     refine Zl ?_
     refine Zq (Zr ?_)
     refine VL.q (q_field fa451_0 rfl) (by decide) ?_
     refine VL.q (q_fe one3 rfl rfl) (by decide) ?_
     refine VL.q (q_neq rfl rfl) (by decide) ?_
     refine Zl ?_
     refine VC.cond_ndec rfl (fun h60 => ?_) (fun h60 => ?_)
     ·
      refine Zr ?_
      refine Zm ?_
      refine VL.q (q_add rfl rfl ⟨by omega, by omega⟩) (by decide) ?_
      refine Za ?_
      refine Zl ?_
      refine Zr ?_
      refine VL.q (q_add rfl rfl ⟨by omega, by omega⟩) (by decide) ?_
      refine Zm ?_
      refine VL.anyI ((k + 1), (i + 1), (j + 1), decide (z27.op = 1), w0) [0, 1, 4, 5, 6, 7, 23, 24, 25, 9, 10, 11, 8] (fun _ _ h => h) ?_ rfl (by (try dsimp only); exact EntO.out)
      try dsimp only
      exact ⟨minv_step hI hz27 (by rw [if_pos h31, if_neg (by simpa using h33)]; rw [← hs39']; exact bump_set rfl hz44 hw0) (by first | (exfalso; omega) | rw [if_pos (by omega)] | rw [if_neg (by omega)]) (by first | (exfalso; omega) | rw [if_pos (by omega)] | rw [if_neg (by omega)]) rfl, by omega⟩
     refine Zk ?_
     refine Zr ?_
     refine VL.q (q_add rfl rfl ⟨by omega, by omega⟩) (by decide) ?_
     refine Zm ?_
     refine VL.anyI ((k + 1), (i + 1), j, decide (z27.op = 1), w0) [0, 1, 4, 5, 6, 7, 23, 24, 25, 9, 10, 11, 8] (fun _ _ h => h) ?_ rfl (by (try dsimp only); exact EntO.out)
     try dsimp only
     exact ⟨minv_step hI hz27 (by rw [if_pos h31, if_neg (by simpa using h33)]; rw [← hs39']; exact bump_set rfl hz44 hw0) (by first | (exfalso; omega) | rw [if_pos (by omega)] | rw [if_neg (by omega)]) (by first | (exfalso; omega) | rw [if_pos (by omega)] | rw [if_neg (by omega)]) rfl, by omega⟩
    refine Zk ?_
    refine Zq (Zr ?_)
    refine VL.q (q_field fa451_0 rfl) (by decide) ?_
    refine VL.q (q_fe one3 rfl rfl) (by decide) ?_
    refine VL.q (q_neq rfl rfl) (by decide) ?_
    refine Zl ?_
    refine VC.cond_ndec rfl (fun h60 => ?_) (fun h60 => ?_)
    ·
     refine Zr ?_
     refine Zm ?_
     refine VL.q (q_add rfl rfl ⟨by omega, by omega⟩) (by decide) ?_
     refine Za ?_
     refine Zl ?_
     refine Zr ?_
     refine VL.q (q_add rfl rfl ⟨by omega, by omega⟩) (by decide) ?_
     refine Zm ?_
     refine VL.anyI ((k + 1), i, (j + 1), decide (z27.op = 1), w0) [0, 1, 4, 5, 6, 7, 23, 24, 25, 9, 10, 11, 8] (fun _ _ h => h) ?_ rfl (by (try dsimp only); exact EntO.out)
     try dsimp only
     exact ⟨minv_step hI hz27 (by rw [if_pos h31, if_neg (by simpa using h33)]; rw [← hs39']; exact bump_set rfl hz44 hw0) (by first | (exfalso; omega) | rw [if_pos (by omega)] | rw [if_neg (by omega)]) (by first | (exfalso; omega) | rw [if_pos (by omega)] | rw [if_neg (by omega)]) rfl, by omega⟩
    refine Zk ?_
    refine Zr ?_
    refine VL.q (q_add rfl rfl ⟨by omega, by omega⟩) (by decide) ?_
    refine Zm ?_
    refine VL.anyI ((k + 1), i, j, decide (z27.op = 1), w0) [0, 1, 4, 5, 6, 7, 23, 24, 25, 9, 10, 11, 8] (fun _ _ h => h) ?_ rfl (by (try dsimp only); exact EntO.out)
    try dsimp only
    exact ⟨minv_step hI hz27 (by rw [if_pos h31, if_neg (by simpa using h33)]; rw [← hs39']; exact bump_set rfl hz44 hw0) (by first | (exfalso; omega) | rw [if_pos (by omega)] | rw [if_neg (by omega)]) (by first | (exfalso; omega) | rw [if_pos (by omega)] | rw [if_neg (by omega)]) rfl, by omega⟩
   refine Zk ?_
   have hon := hI.row (by simpa using h33)
   have hol : 0 < o.l.length := List.length_pos_iff.2 hon
   refine Zr ?_
   refine Zm ?_
   refine Zm ?_
   refine VL.q (q_ln (s := o) Tryz.underlying429 rfl) (by decide) ?_
   refine VL.q (q_sub rfl rfl ⟨by omega, by omega⟩) (by decide) ?_
   obtain ⟨z44, hz44⟩ : ∃ z, o.l[(((o.l.length : Int) - 1)).toNat]? = some z := ⟨_, List.getElem?_eq_getElem (by omega)⟩
   refine VL.q (q_ixo (s := o) Tryz.underlying429 sz434 rfl rfl (by omega) (by omega)) (by decide) ?_
   refine VL.q (q_field fa434_2 rfl) (by decide) ?_
   have hbd := hI.bd z44 (List.mem_of_getElem? hz44)
   refine VL.q (q_elfo (s := o) one3 rfl hz44 rfl) (by decide) ?_
   refine VL.q (q_add rfl rfl ⟨by omega, by omega⟩) (by decide) ?_
   refine VL.q (q_ixo (s := o) Tryz.underlying429 sz434 rfl rfl (by omega) (by omega)) (by decide) ?_
   refine VL.q (q_field fa434_2 rfl) (by decide) ?_
   refine VL.storeE (s := o) (T := 434) (j := 2) (vc := [i64 (z44.n + 1)]) (⟨z44.a, z44.b, (z44.n + 1)⟩ : Mat) (by decide) rfl rfl hz44 rfl sz3 rfl rfl (Nat.le_of_ble_eq_true rfl) rfl (fun w1 hw1 haw1 hcw1 hvw1 hbw1 how1 => ?_)
   rw [← hvw1]
   refine Zl ?_
   refine Zq (Zr ?_)
   refine VL.q (q_field fa451_0 rfl) (by decide) ?_
   refine VL.q (q_fe one3 rfl rfl) (by decide) ?_
   refine VL.q (q_eql rfl rfl) (by decide) ?_
   refine Za ?_
   refine Zl ?_
   refine Zq (Zq (Zr ?_))
   refine VL.q (q_field fa451_0 rfl) (by decide) ?_
   refine VL.q (q_fe one3 rfl rfl) (by decide) ?_
   refine VL.q (q_neq rfl rfl) (by decide) ?_
   refine Zl ?_
   refine VC.cond_ndec rfl (fun h55 => ?_) (fun h55 => ?_)
   ·
    refine Zr ?_
    refine Zm ?_
    refine VL.q (q_add rfl rfl ⟨by omega, by omega⟩) (by decide) ?_
    refine Za ?_
    refine Zl ?_
    refine Zq (Zr ?_)
    refine VL.q (q_field fa451_0 rfl) (by decide) ?_
    refine VL.q (q_fe one3 rfl rfl) (by decide) ?_
    refine VL.q (q_neq rfl rfl) (by decide) ?_
    refine Zl ?_
    refine VC.cond_ndec rfl (fun h60 => ?_) (fun h60 => ?_)
    ·
     refine Zr ?_
     refine Zm ?_
     refine VL.q (q_add rfl rfl ⟨by omega, by omega⟩) (by decide) ?_
     refine Za ?_
     refine Zl ?_
     refine Zr ?_
     refine VL.q (q_add rfl rfl ⟨by omega, by omega⟩) (by decide) ?_
     refine Zm ?_
     refine VL.anyI ((k + 1), (i + 1), (j + 1), decide (z27.op = 1), w1) [0, 1, 4, 5, 6, 7, 23, 24, 25, 9, 10, 11, 8] (fun _ _ h => h) ?_ rfl (by (try dsimp only); exact EntO.out)
     try dsimp only
     exact ⟨minv_step hI hz27 (by rw [if_pos h31, if_pos (by simpa using h33)]; exact bump_set rfl hz44 hw1) (by first | (exfalso; omega) | rw [if_pos (by omega)] | rw [if_neg (by omega)]) (by first | (exfalso; omega) | rw [if_pos (by omega)] | rw [if_neg (by omega)]) rfl, by omega⟩
    refine Zk ?_
    refine Zr ?_
    refine VL.q (q_add rfl rfl ⟨by omega, by omega⟩) (by decide) ?_
    refine Zm ?_
    refine VL.anyI ((k + 1), (i + 1), j, decide (z27.op = 1), w1) [0, 1, 4, 5, 6, 7, 23, 24, 25, 9, 10, 11, 8] (fun _ _ h => h) ?_ rfl (by (try dsimp only); exact EntO.out)
    try dsimp only
    exact ⟨minv_step hI hz27 (by rw [if_pos h31, if_pos (by simpa using h33)]; exact bump_set rfl hz44 hw1) (by first | (exfalso; omega) | rw [if_pos (by omega)] | rw [if_neg (by omega)]) (by first | (exfalso; omega) | rw [if_pos (by omega)] | rw [if_neg (by omega)]) rfl, by omega⟩
   refine Zk ?_
   refine Zq (Zr ?_)
   refine VL.q (q_field fa451_0 rfl) (by decide) ?_
   refine VL.q (q_fe one3 rfl rfl) (by decide) ?_
   refine VL.q (q_neq rfl rfl) (by decide) ?_
   refine Zl ?_
   refine VC.cond_ndec rfl (fun h60 => ?_) (fun h60 => ?_)
   ·
    refine Zr ?_
    refine Zm ?_
    refine VL.q (q_add rfl rfl ⟨by omega, by omega⟩) (by decide) ?_
    refine Za ?_
    refine Zl ?_
    refine Zr ?_
    refine VL.q (q_add rfl rfl ⟨by omega, by omega⟩) (by decide) ?_
    refine Zm ?_
    refine VL.anyI ((k + 1), i, (j + 1), decide (z27.op = 1), w1) [0, 1, 4, 5, 6, 7, 23, 24, 25, 9, 10, 11, 8] (fun _ _ h => h) ?_ rfl (by (try dsimp only); exact EntO.out)
    try dsimp only
    exact ⟨minv_step hI hz27 (by rw [if_pos h31, if_pos (by simpa using h33)]; exact bump_set rfl hz44 hw1) (by first | (exfalso; omega) | rw [if_pos (by omega)] | rw [if_neg (by omega)]) (by first | (exfalso; omega) | rw [if_pos (by omega)] | rw [if_neg (by omega)]) rfl, by omega⟩
   refine Zk ?_
   refine Zr ?_
   refine VL.q (q_add rfl rfl ⟨by omega, by omega⟩) (by decide) ?_
   refine Zm ?_
   refine VL.anyI ((k + 1), i, j, decide (z27.op = 1), w1) [0, 1, 4, 5, 6, 7, 23, 24, 25, 9, 10, 11, 8] (fun _ _ h => h) ?_ rfl (by (try dsimp only); exact EntO.out)
   try dsimp only
   exact ⟨minv_step hI hz27 (by rw [if_pos h31, if_pos (by simpa using h33)]; exact bump_set rfl hz44 hw1) (by first | (exfalso; omega) | rw [if_pos (by omega)] | rw [if_neg (by omega)]) (by first | (exfalso; omega) | rw [if_pos (by omega)] | rw [if_neg (by omega)]) rfl, by omega⟩
  refine Zk ?_
  refine Zq (Zr ?_)
  refine VL.q (q_field fa451_0 rfl) (by decide) ?_
  refine VL.q (q_fe one3 rfl rfl) (by decide) ?_
  refine VL.q (q_eql rfl rfl) (by decide) ?_
  refine Za ?_
  refine Zl ?_
  refine Zq (Zq (Zr ?_))
  refine VL.q (q_field fa451_0 rfl) (by decide) ?_
  refine VL.q (q_fe one3 rfl rfl) (by decide) ?_
  refine VL.q (q_neq rfl rfl) (by decide) ?_
  refine Zl ?_
  refine VC.cond_ndec rfl (fun h55 => ?_) (fun h55 => ?_)
  ·
   refine Zr ?_
   refine Zm ?_
   refine VL.q (q_add rfl rfl ⟨by omega, by omega⟩) (by decide) ?_
   refine Za ?_
   refine Zl ?_
   refine Zq (Zr ?_)
   refine VL.q (q_field fa451_0 rfl) (by decide) ?_
   refine VL.q (q_fe one3 rfl rfl) (by decide) ?_
   refine VL.q (q_neq rfl rfl) (by decide) ?_
   refine Zl ?_
   refine VC.cond_ndec rfl (fun h60 => ?_) (fun h60 => ?_)
   ·
    refine Zr ?_
    refine Zm ?_
    refine VL.q (q_add rfl rfl ⟨by omega, by omega⟩) (by decide) ?_
    refine Za ?_
    refine Zl ?_
    refine Zr ?_
    refine VL.q (q_add rfl rfl ⟨by omega, by omega⟩) (by decide) ?_
    refine Zm ?_
    refine VL.anyI ((k + 1), (i + 1), (j + 1), decide (z27.op = 1), o) [0, 1, 4, 5, 6, 7, 23, 24, 25, 9, 10, 11, 8] (fun _ _ h => h) ?_ rfl (by (try dsimp only); exact EntO.out)
    try dsimp only
    exact ⟨minv_step hI hz27 (by rw [if_neg h31]) (by first | (exfalso; omega) | rw [if_pos (by omega)] | rw [if_neg (by omega)]) (by first | (exfalso; omega) | rw [if_pos (by omega)] | rw [if_neg (by omega)]) rfl, by omega⟩
   refine Zk ?_
   refine Zr ?_
   refine VL.q (q_add rfl rfl ⟨by omega, by omega⟩) (by decide) ?_
   refine Zm ?_
   refine VL.anyI ((k + 1), (i + 1), j, decide (z27.op = 1), o) [0, 1, 4, 5, 6, 7, 23, 24, 25, 9, 10, 11, 8] (fun _ _ h => h) ?_ rfl (by (try dsimp only); exact EntO.out)
   try dsimp only
   exact ⟨minv_step hI hz27 (by rw [if_neg h31]) (by first | (exfalso; omega) | rw [if_pos (by omega)] | rw [if_neg (by omega)]) (by first | (exfalso; omega) | rw [if_pos (by omega)] | rw [if_neg (by omega)]) rfl, by omega⟩
  refine Zk ?_
  refine Zq (Zr ?_)
  refine VL.q (q_field fa451_0 rfl) (by decide) ?_
  refine VL.q (q_fe one3 rfl rfl) (by decide) ?_
  refine VL.q (q_neq rfl rfl) (by decide) ?_
  refine Zl ?_
  refine VC.cond_ndec rfl (fun h60 => ?_) (fun h60 => ?_)
  ·
   refine Zr ?_
   refine Zm ?_
   refine VL.q (q_add rfl rfl ⟨by omega, by omega⟩) (by decide) ?_
   refine Za ?_
   refine Zl ?_
   refine Zr ?_
   refine VL.q (q_add rfl rfl ⟨by omega, by omega⟩) (by decide) ?_
   refine Zm ?_
   refine VL.anyI ((k + 1), i, (j + 1), decide (z27.op = 1), o) [0, 1, 4, 5, 6, 7, 23, 24, 25, 9, 10, 11, 8] (fun _ _ h => h) ?_ rfl (by (try dsimp only); exact EntO.out)
   try dsimp only
   exact ⟨minv_step hI hz27 (by rw [if_neg h31]) (by first | (exfalso; omega) | rw [if_pos (by omega)] | rw [if_neg (by omega)]) (by first | (exfalso; omega) | rw [if_pos (by omega)] | rw [if_neg (by omega)]) rfl, by omega⟩
  refine Zk ?_
  refine Zr ?_
  refine VL.q (q_add rfl rfl ⟨by omega, by omega⟩) (by decide) ?_
  refine Zm ?_
  refine VL.anyI ((k + 1), i, j, decide (z27.op = 1), o) [0, 1, 4, 5, 6, 7, 23, 24, 25, 9, 10, 11, 8] (fun _ _ h => h) ?_ rfl (by (try dsimp only); exact EntO.out)
  try dsimp only
  exact ⟨minv_step hI hz27 (by rw [if_neg h31]) (by first | (exfalso; omega) | rw [if_pos (by omega)] | rw [if_neg (by omega)]) (by first | (exfalso; omega) | rw [if_pos (by omega)] | rw [if_neg (by omega)]) rfl, by omega⟩
 refine Zx ?_
 refine Zq ?_
 refine VC.shut o 434 (fun _ _ _ _ => trivial) ?_
 refine Zr ?_
 refine Zm ?_
 refine VL.callF (clipM_ct o) rfl (by decide) ?_
 rintro s65 hs65
 refine Za ?_
 refine Za ?_
 refine Zl ?_
 exact VC.ret (fin2I (.inr rfl) rfl rfl rfl s65 rfl ((by rw [hs65, ← hl, ← hI.eq, List.drop_eq_nil_of_le (by omega)]; rfl)) (fun _ _ => trivial))
end Go.Proofs.YtpmhinamcndmeaaGreatDoor
end

section
namespace Go.Proofs
open Go.Shelf
def Tryz.lays264_ren : Go.Shelf.Ren := ⟨fun | 264 => 395 | n => n, fun | 53 => 304 | 46 => 220 | n => n, fun | n => n⟩
theorem Tryz.lays264 : Go.Proofs.Lays.n264 Tryz.prog Tryz.lays264_ren := {
  mixed := by kernel_rfl
  f264 := Tryz.func395.trans (congrArg some (by kernel_rfl))
  t46 := Tryz.underlying220
  a46 := Tryz.isAgg220
  z46 := Tryz.sizeOf220
  v46 := Tryz.zeroValue220
  t53 := Tryz.underlying304
  a53 := Tryz.isAgg304
  z53 := Tryz.sizeOf304
  v53 := Tryz.zeroValue304 }
open Go.RowKit Go.Lib in
theorem Tryz.bits_Mul64 (x y : Nat) (hx : x < 18446744073709551616) (hy : y < 18446744073709551616) (w : World) :
    Calls Tryz.prog 395 #[.int .u64 x, .int .u64 y] w fun e w' => e = .returned (.tuple #[.int .u64 ((x * y / 18446744073709551616 : Nat) : Int), .int .u64 ((x * y % 18446744073709551616 : Nat) : Int)]) ∧ w' = w := Any.bits_Mul64 Tryz.lays264 x y hx hy w
def Tryz.lays212_ren : Go.Shelf.Ren := ⟨fun | 212 => 387 | 263 => 394 | 264 => 395 | n => n, fun | 46 => 220 | 51 => 302 | 146 => 420 | 53 => 304 | 148 => 462 | n => n, fun | n => n⟩
theorem Tryz.lays212 : Go.Proofs.Lays.n212 Tryz.prog Tryz.lays212_ren := {
  mixed := by kernel_rfl
  f212 := Tryz.func387.trans (congrArg some (by kernel_rfl))
  f263 := Tryz.func394.trans (congrArg some (by kernel_rfl))
  f264 := Tryz.func395.trans (congrArg some (by kernel_rfl))
  t46 := Tryz.underlying220
  a46 := Tryz.isAgg220
  z46 := Tryz.sizeOf220
  v46 := Tryz.zeroValue220
  t51 := Tryz.underlying302
  a51 := Tryz.isAgg302
  z51 := Tryz.sizeOf302
  v51 := Tryz.zeroValue302
  t53 := Tryz.underlying304
  a53 := Tryz.isAgg304
  z53 := Tryz.sizeOf304
  v53 := Tryz.zeroValue304
  t146 := Tryz.underlying420
  a146 := Tryz.isAgg420
  z146 := Tryz.sizeOf420
  v146 := Tryz.zeroValue420
  t148 := Tryz.underlying462
  a148 := Tryz.isAgg462
  z148 := Tryz.sizeOf462
  v148 := Tryz.zeroValue462 }
open Go.RowKit Go.Lib in
/-- math/bits.Mul: "Mul returns the full-width product of x and y": on a machine of 64 bits: Mul64's. (LAID: no walk: one application.) -/
theorem Tryz.bits_Mul (x y : Nat) (hx : x < 18446744073709551616) (hy : y < 18446744073709551616) (w : World) :
    Calls Tryz.prog 387 #[.int .u64 x, .int .u64 y] w fun e w' => e = .returned (.tuple #[.int .u64 ((x * y / 18446744073709551616 : Nat) : Int), .int .u64 ((x * y % 18446744073709551616 : Nat) : Int)]) ∧ w' = w := Any.bits_Mul Tryz.lays212 x y hx hy w
end Go.Proofs
end

section
namespace Go.P
theorem rep_step {α : Type} {l l' : List α} {v : α} {m : Int} (h0 : 0 ≤ m) (h1 : m ≤ l.length) (hm : l.take m.toNat = List.replicate m.toNat v) (hl : l' = l.take m.toNat ++ ((l.drop 0).take (m.toNat - 0)).take ((l.drop m.toNat).take (l.length - m.toNat)).length ++ l.drop (m.toNat + min ((l.drop 0).take (m.toNat - 0)).length ((l.drop m.toNat).take (l.length - m.toNat)).length)) :
    l'.length = l.length ∧ l'.take (m + (min ((l.drop 0).take (m.toNat - 0)).length ((l.drop m.toNat).take (l.length - m.toNat)).length : Nat)).toNat = List.replicate (m + (min ((l.drop 0).take (m.toNat - 0)).length ((l.drop m.toNat).take (l.length - m.toNat)).length : Nat)).toNat v ∧ m + (min ((l.drop 0).take (m.toNat - 0)).length ((l.drop m.toNat).take (l.length - m.toNat)).length : Nat) ≤ l.length ∧ (0 < m → m < l.length → 0 < min ((l.drop 0).take (m.toNat - 0)).length ((l.drop m.toNat).take (l.length - m.toNat)).length) := by
  have e1 : ((l.drop 0).take (m.toNat - 0)).length = m.toNat := by simp; omega
  have e2 : ((l.drop m.toNat).take (l.length - m.toNat)).length = l.length - m.toNat := by simp
  have e3 : (l.drop 0).take (m.toNat - 0) = List.replicate m.toNat v := by simpa using hm
  rw [e1, e2] at hl ⊢
  rw [e3, hm] at hl
  refine ⟨?_, ?_, by omega, by omega⟩
  · rw [hl]; simp; omega
  · rw [show (m + ((min m.toNat (l.length - m.toNat) : Nat) : Int)).toNat = m.toNat + min m.toNat (l.length - m.toNat) by omega, hl, List.take_append_of_le_length (by simp; omega), List.take_replicate, List.replicate_append_replicate, List.take_replicate]
    congr 1
    omega
end Go.P
namespace Go.P
theorem rep_init {n v : Int} {r s t : List Int} (h0 : 0 ≤ n) (hr : r = [v]) (hs : s = List.replicate n.toNat 0) (ht : t = s.take 0 ++ r.take s.length ++ s.drop (0 + min r.length s.length)) :
    0 ≤ ((min r.length s.length : Nat) : Int) ∧ ((min r.length s.length : Nat) : Int) ≤ t.length ∧ t.length = n.toNat ∧ t.take ((min r.length s.length : Nat) : Int).toNat = List.replicate ((min r.length s.length : Nat) : Int).toNat v ∧ (((min r.length s.length : Nat) : Int) = 0 → n = 0) := by
  subst hr
  have hl : s.length = n.toNat := by rw [hs]; simp
  cases hn : n.toNat with
  | zero =>
    rw [hn] at hl
    have : s = [] := List.length_eq_zero_iff.1 hl
    subst this
    simp at ht
    subst ht
    simp
    omega
  | succ k =>
    rw [hn] at hl hs
    have e : min [v].length s.length = 1 := by simp; omega
    rw [e] at *
    rw [hs] at ht
    subst ht
    simp
    omega
theorem rep_end {m n v : Int} {s : List Int} (h1 : m ≤ s.length) (h : ¬ m < s.length) (hl : s.length = n.toNat) (hm : s.take m.toNat = List.replicate m.toNat v) : s = List.replicate n.toNat v := by
  have e : m.toNat = s.length := by omega
  rw [e, List.take_length] at hm
  rw [← hl]
  exact hm
end Go.P
end

section
namespace Go.Proofs.YtpmhinamcndmeaaGreatDoor
open Go.RowKit Go.V
open Go.P hiding Str
theorem mul1_ct (x n : Int) (hx : x = 1) (h0 : 0 ≤ n) (h1 : n ≤ 1048576) : Ct Tryz.prog 387 [.int .u64 x, .int .u64 n] Mo.tt Ow.emp (X := Unit) (fun _ => .tuple #[.int .u64 0, .int .u64 n]) (fun _ => True) (fun _ => Mo.tt) (fun _ => Ow.emp) :=
  Ct.of_gr (entry_of Tryz.func387 rfl (by kernel_rfl)) fun w h _ _ => by
  have := Tryz.bits_Mul 1 n.toNat (by omega) (by omega) w
  subst hx
  have e1 : ((n.toNat : Nat) : Int) = n := by omega
  have e2 : 1 * n.toNat / 18446744073709551616 = 0 := by omega
  have e3 : 1 * n.toNat % 18446744073709551616 = n.toNat := by omega
  rw [e2, e3, e1] at this
  refine this.mono fun e w' ⟨h1, h2⟩ => ⟨h1, h2 ▸ Gr.refl w⟩
set_option maxRecDepth 100000 in
 theorem repeat_ct (r : Sv Int) (v n : Int) (hr : r.l = [v]) (h0 : 0 ≤ n) (h1 : n ≤ 1048576) :
 Ct Tryz.prog 372 [r.val, i64 n] r.ok Ow.emp (X := Sv Int) Sv.val (fun q => q.l = List.replicate n.toNat v) (fun _ => Mo.tt) (fun q => q.own 3) := by
 have hrl : (r.l.length : Int) = 1 := by rw [hr]; rfl
 refine Ct.of Tryz.func372 rfl (by kernel_rfl) Tryz.ntmps372 (by simp) fun c => ?_
 refine Zq (Zr ?_)
 refine Za ?_
 refine Zl ?_
 refine Zq (Zq (Zr ?_))
 refine Zm ?_
 refine VL.q (q_lss rfl rfl) (by decide) ?_
 refine Zl ?_
 refine VC.cond_dec rfl (fun h10 => ?_) (fun h10 => ?_)
 ·
  exact absurd h10 (by omega)
 refine Zk ?_
 refine Zq (Zr ?_)
 refine Zm ?_
 refine VL.q (q_ln (s := r) Tryz.underlying60 rfl) (by decide) ?_
 refine VL.q (q_conv Tryz.underlying3 Tryz.underlying220 rfl (by rw [hrl]; rfl)) (by decide) ?_
 refine Zm ?_
 refine VL.q (q_conv Tryz.underlying3 Tryz.underlying220 rfl (wrap_u64 (by omega) (by omega))) (by decide) ?_
 refine VL.q (q_call (mul1_ct (r.l.length : Int) n hrl h0 h1) rfl (fun _ _ => rfl)) (by decide) ?_
 refine Zm ?_
 refine VL.q (q_extract rfl rfl) (by decide) ?_
 refine VL.q (q_extract rfl rfl) (by decide) ?_
 refine Za ?_
 refine Za ?_
 refine Zl ?_
 refine Zq (Zq (Zr ?_))
 refine Zm ?_
 refine VL.q (q_gtr rfl rfl) (by decide) ?_
 refine VL.setv 22 rfl (congrArg Value.bool (decide_eq_false (by omega))) ?_
 refine Zm ?_
 refine Zg ?_
 refine VL.gy rfl rfl (q_gtr rfl rfl) (by decide) ?_
 refine Zf ?_
 refine Zl ?_
 refine VC.cond_dec rfl (fun h26 => ?_) (fun h26 => ?_)
 ·
  exact absurd h26 (by omega)
 refine Zk ?_
 refine Zq (Zr ?_)
 refine Zm ?_
 refine VL.q (q_conv Tryz.underlying220 Tryz.underlying3 rfl (IntWalk.i64_in _ (by omega))) (by decide) ?_
 refine VL.make (α := Int) (z := 0) Tryz.underlying60 mk3 (by decide) rfl rfl (by omega) (by omega) (by omega) (by omega) (by decide) (fun s30 hs30 => ?_)
 refine Za ?_
 refine Zl ?_
 refine Zq (Zr ?_)
 refine Zm ?_
 refine Zm ?_
 refine VL.copy (s := s30) (T := 3) (k := 0) (n := s30.l.length) (sr := r.l) rfl Tryz.underlying60 sz3 Fo.out rfl (by simp) (fun _ => .inr ⟨rfl, rfl⟩) (ok_src rfl) (by decide) fun s33 hs33 hv33 ha33 hc33 => ?_
 rw [← hv33]
 refine Za ?_
 refine Zl ?_
 refine Zq (Zb ?_)
 refine VC.loopK (S := Int × Sv Int) (fun sg => 0 ≤ sg.1 ∧ sg.1 ≤ sg.2.l.length ∧ sg.2.l.length = n.toNat ∧ sg.2.l.take sg.1.toNat = List.replicate sg.1.toNat v ∧ (sg.1 = 0 → n = 0)) (fun sg => [(0, r.val), (1, i64 n), (4, .slice none 0 0), (5, .int .u64 (0 : Int)), (6, .int .u64 n), (7, sg.2.val), (8, i64 sg.1), (7, sg.2.val)]) (fun sg => Ow.star (Sv.own sg.2 3) (Ow.emp)) (fun sg => (sg.2.l.length - sg.1).toNat) (((min r.l.length s30.l.length : Nat) : Int), s33) [0, 1, 4, 5, 6, 7, 8, 7] (by (try dsimp only); exact rep_init h0 hr hs30 hs33) rfl (by (try dsimp only); exact EntO.out) ?_
 rintro ⟨m, s⟩ hI
 show VC _ _ _ _ _ [(0, r.val), (1, i64 n), (4, .slice none 0 0), (5, .int .u64 (0 : Int)), (6, .int .u64 n), (7, s.val), (8, i64 m), (7, s.val)] _ (Ow.star (Sv.own s 3) (Ow.emp))
 try dsimp only at hI
 obtain ⟨h0m, h1m, hsl, hm, hmz⟩ := hI
 refine Zq (Zq (Zr ?_))
 refine Zm ?_
 refine Zm ?_
 refine VL.q (q_ln (s := s) Tryz.underlying60 rfl) (by decide) ?_
 refine VL.q (q_lss rfl rfl) (by decide) ?_
 refine Zl ?_
 refine VC.cond_dec rfl (fun h37 => ?_) (fun h37 => ?_)
 ·
  refine Zk ?_
  refine Zb ?_
  refine VC.lenO s fun hlc hcm => ?_
  refine VC.draw [(0, true), (1, true), (2, true), (3, true), (4, true), (5, true), (6, true), (7, false), (8, true), (9, true)] mixed (by kernel_rfl) (by kernel_rfl) (by kernel_rfl) ?_
  refine VD.q rfl (q_move rfl) (by decide) ?_
  refine VD.q rfl (q_move rfl) (by decide) ?_
  refine VD.q rfl (q_move rfl) (by decide) ?_
  refine VD.q rfl (q_cut (s := s) m.toNat s.l.length s.c Tryz.underlying60 sz3 rfl rfl rfl rfl (by show m = _; omega) rfl rfl (fun h => by cases h) (by omega) hlc (Nat.le_refl _) (Nat.le_refl _)) (by decide) ?_
  refine VD.q rfl (q_move rfl) (by decide) ?_
  refine VD.q rfl (q_move rfl) (by decide) ?_
  refine VD.q rfl (q_cut (s := s) 0 m.toNat s.c Tryz.underlying60 sz3 rfl rfl rfl rfl rfl (by show m = _; omega) rfl (fun h => by cases h) (by omega) (by omega) (Nat.le_refl _) (by omega)) (by decide) ?_
  refine VD.one rfl ?_
  refine VL.copy (s := s) (T := 3) (k := m.toNat) (n := ((s.l.drop m.toNat).take (s.l.length - m.toNat)).length) (sr := (s.l.drop 0).take (m.toNat - 0)) rfl Tryz.underlying60 sz3 Fo.out rfl (by simp; omega) (fun hn => .inl (if_neg (by simp at hn; omega))) (own_src rfl (by omega)) (by decide) fun s' hs' hv' ha' hc' => ?_
  rw [← hv']
  refine VL.back (D' := []) (by kernel_rfl) (Pend.nil) ?_
  obtain ⟨r1, r2, r3, r4⟩ := rep_step h0m h1m hm hs'
  refine VD.q rfl (q_add rfl rfl ⟨by omega, by omega⟩) (by decide) ?_
  refine VD.q rfl (q_assign rfl) (by decide) ?_
  refine VD.anyI ((m + ((min ((s.l.drop 0).take (m.toNat - 0)).length ((s.l.drop m.toNat).take (s.l.length - m.toNat)).length : Nat) : Int)), s') [0, 1, 4, 5, 6, 7, 8, 7] (fun _ _ h => h) ?_ rfl (by (try dsimp only); exact EntO.out)
  try dsimp only
  exact ⟨⟨by omega, by omega, by omega, r2, by omega⟩, by omega⟩
 refine Zx ?_
 refine Zq (Zr ?_)
 refine Zm ?_
 refine Za ?_
 refine Zl ?_
 exact VC.ret (fin1I (.inr rfl) rfl rfl s rfl ((rep_end h1m (by assumption) hsl hm)) HasO.out)
end Go.Proofs.YtpmhinamcndmeaaGreatDoor
end

section
namespace Go.P
def fillN (o : List Int) (m : Mat) : Nat → List Int
  | 0 => o
  | k + 1 => (fillN o m k).set (m.a + k).toNat (m.b + k)
def fill (o : List Int) (ms : List Mat) : List Int := ms.foldl (fun o m => fillN o m m.n.toNat) o
theorem fillN_length (o : List Int) (m : Mat) : ∀ k, (fillN o m k).length = o.length
  | 0 => rfl
  | k + 1 => by simp [fillN, fillN_length o m k]
theorem fill_length (ms : List Mat) : ∀ o : List Int, (fill o ms).length = o.length := by
  induction ms with
  | nil => intro o; rfl
  | cons m r ih => intro o; simp only [fill, List.foldl_cons] at *; rw [ih, fillN_length]
theorem fill_snoc {o : List Int} {ms : List Mat} {m : Mat} {k : Int} (h0 : 0 ≤ k) (h : ms[k.toNat]? = some m) : fill o (ms.take (k + 1).toNat) = fillN (fill o (ms.take k.toNat)) m m.n.toNat := by
  rw [show (k + 1).toNat = k.toNat + 1 by omega, List.take_add_one, h]
  simp [fill, List.foldl_append]
theorem fillN_step {o p q : List Int} {m : Mat} {x : Int} (h0 : 0 ≤ x) (hp : p = fillN o m x.toNat) (hq : q = p.set (m.a + x).toNat (m.b + x)) : q = fillN o m (x + 1).toNat := by
  rw [show (x + 1).toNat = x.toNat + 1 by omega, fillN, ← hp, hq, show ((x.toNat : Nat) : Int) = x by omega]
def c1 (l : List Edit) : Int := (l.filter fun e => decide (¬ e.op = 3)).length
def c2 (l : List Edit) : Int := (l.filter fun e => decide (¬ e.op = 2)).length
theorem mfold_bd : ∀ (l : List Edit) (i j : Int) (row : Bool) (o : List Mat), 0 ≤ i → 0 ≤ j → Bd o i j → Bd (mfold l i j row o) (i + c1 l) (j + c2 l)
  | [], i, j, _, o, _, _, h => by simpa [mfold, c1, c2] using h
  | e :: r, i, j, row, o, hi, hj, h => by
    have h1 : c1 (e :: r) = (if e.op = 3 then 0 else 1) + c1 r := by
      simp only [c1, List.filter_cons]
      by_cases q : e.op = 3 <;> simp [q] <;> omega
    have h2 : c2 (e :: r) = (if e.op = 2 then 0 else 1) + c2 r := by
      simp only [c2, List.filter_cons]
      by_cases q : e.op = 2 <;> simp [q] <;> omega
    have hi' : i ≤ (if e.op = 3 then i else i + 1) := by split <;> omega
    have hj' : j ≤ (if e.op = 2 then j else j + 1) := by split <;> omega
    have key : Bd (if e.op = 1 then bump (if row then o else o ++ [⟨i, j, 0⟩]) else o) (if e.op = 3 then i else i + 1) (if e.op = 2 then j else j + 1) := by
      by_cases q : e.op = 1
      · have e1 : (if e.op = 3 then i else i + 1) = i + 1 := if_neg (by omega)
        have e2 : (if e.op = 2 then j else j + 1) = j + 1 := if_neg (by omega)
        rw [if_pos q, e1, e2]
        refine Bd.bump ?_
        split
        · exact h
        · exact h.snoc hi hj
      · rw [if_neg q]; exact h.up hi' hj'
    have := mfold_bd r (if e.op = 3 then i else i + 1) (if e.op = 2 then j else j + 1) (decide (e.op = 1)) _ (by omega) (by omega) key
    simp only [mfold]
    refine this.up ?_ ?_
    · rw [h1]; split <;> omega
    · rw [h2]; split <;> omega
theorem c_cons (e : Edit) (r : List Edit) : c1 (e :: r) = (if e.op = 3 then 0 else 1) + c1 r ∧ c2 (e :: r) = (if e.op = 2 then 0 else 1) + c2 r := by
  constructor
  · simp only [c1, List.filter_cons]
    by_cases q : e.op = 3 <;> simp [q] <;> omega
  · simp only [c2, List.filter_cons]
    by_cases q : e.op = 2 <;> simp [q] <;> omega
theorem c_edits : ∀ a b : List Str, c1 (edits a b) = a.length ∧ c2 (edits a b) = b.length
  | [], b => by
    constructor
    · simp [edits, c1, List.filter_map, Function.comp_def]
    · simp only [edits, c2, List.filter_map, List.length_map]
      rw [show List.filter ((fun e : Edit => decide ¬e.op = 2) ∘ fun y => (⟨3, y⟩ : Edit)) b = b from List.filter_eq_self.2 (fun _ _ => rfl)]
  | x :: a, [] => by
    have := c_edits a []
    rw [edits_nil, (c_cons _ _).1, (c_cons _ _).2]
    simp at this ⊢
    omega
  | x :: a, y :: b => by
    rw [edits_cons]
    split
    · have := c_edits a b
      rw [(c_cons _ _).1, (c_cons _ _).2]; simp; omega
    · split
      · have := c_edits a (y :: b)
        rw [(c_cons _ _).1, (c_cons _ _).2]; simp at this ⊢; omega
      · have := c_edits (x :: a) b
        rw [(c_cons _ _).1, (c_cons _ _).2]; simp at this ⊢; omega
theorem mats_bd (a b : List Str) : Bd (mats (edits a b)) a.length b.length := by
  have := mfold_bd (edits a b) 0 0 false [] (by omega) (by omega) (fun _ h => by cases h)
  rw [(c_edits a b).1, (c_edits a b).2] at this
  simpa [mats] using this
def places (a b : List Str) : List Int := fill (List.replicate a.length (-1)) (mats (edits a b))
end Go.P
end

section
namespace Go.Proofs.YtpmhinamcndmeaaGreatDoor
open Go.RowKit Go.V
open Go.P hiding Str
theorem lit3 : ((Tryz.prog.info? 3).map fun i => (i.size, i.zero.isSome)) = some (1, true) := by kernel_rfl
theorem agg434 : AggOf Tryz.prog 434 3 := aggOf_of Tryz.underlying434 rfl (by kernel_rfl)
theorem fa434_0 : FieldAt Tryz.prog 434 0 0 := fieldAt_sz (n := 0) (f := ⟨_, _, 0, _, _, _, _⟩) Tryz.underlying434 rfl (by kernel_rfl)
theorem fa434_1 : FieldAt Tryz.prog 434 1 1 := fieldAt_sz (n := 0) (f := ⟨_, _, 1, _, _, _, _⟩) Tryz.underlying434 rfl (by kernel_rfl)
set_option maxRecDepth 100000 in
 theorem places_ct (a b : Sv Str) (ha : a.l.length ≤ 256) (hb : b.l.length ≤ 256) :
 Ct Tryz.prog 343 [a.val, b.val] (a.ok.and b.ok) Ow.emp (X := Sv Int) (fun q => .tuple #[q.val, .nilIface]) (fun q => q.l = places a.l b.l) (fun q => q.ok) (fun _ => Ow.emp) := by
 refine Ct.of Tryz.func343 rfl (by kernel_rfl) Tryz.ntmps343 (by simp) fun c => ?_
 refine Zq (Zr ?_)
 refine Za ?_
 refine Za ?_
 refine Zl ?_
 refine Zq (Zr ?_)
 refine Zm ?_
 refine Zm ?_
 refine VL.callF (matches_ct a b ha hb) rfl (by decide) ?_
 rintro l hl
 refine Zm ?_
 refine VL.q (q_extract rfl rfl) (by decide) ?_
 refine VL.q (q_extract rfl rfl) (by decide) ?_
 refine Za ?_
 refine Za ?_
 refine Zl ?_
 refine Zq (Zq (Zr ?_))
 refine Zm ?_
 refine VL.q (q_nilne Tryz.underlying27 rfl) (by decide) ?_
 refine Zl ?_
 refine VC.cond_f rfl ?_
 refine Zk ?_
 refine Zq (Zr ?_)
 refine VL.lit (α := Int) (xs := [.const (i64 (-1))]) (vs := [i64 (-1)]) [(-1)] Tryz.underlying60 lit3 (by decide) rfl rfl rfl rfl (by decide) (fun _ _ _ _ => trivial) (by decide) (fun s21 hs21 => ?_) (by decide)
 refine Zm ?_
 refine VL.q (q_ln (s := a) Tryz.underlying32 rfl) (by decide) ?_
 refine VL.callO (repeat_ct s21 (-1) (a.l.length : Int) hs21 (by omega) (by omega)) rfl (by decide) ?_
 rintro s24 hs24
 refine Za ?_
 refine Zl ?_
 refine Zq (Zq (Zr ?_))
 refine Zm ?_
 refine VL.q (q_ln (s := l) Tryz.underlying429 rfl) (by decide) ?_
 refine Zm ?_
 refine Zl ?_
 refine Zb ?_
 refine VC.len l fun hll => ?_
 refine VC.loopK (S := Int × Sv Int) (fun sg => 0 ≤ sg.1 ∧ sg.1 ≤ l.l.length ∧ sg.2.l = fill (List.replicate a.l.length (-1)) (l.l.take sg.1.toNat)) (fun sg => [(0, a.val), (1, b.val), (4, .slice none 0 0), (5, .nilIface), (6, l.val), (7, .nilIface), (8, sg.2.val), (25, l.val), (26, i64 (l.l.length : Int)), (27, i64 sg.1), (8, sg.2.val)]) (fun sg => Ow.star (Sv.own sg.2 3) (Ow.emp)) (fun sg => (l.l.length - sg.1).toNat) (0, s24) [0, 1, 4, 5, 6, 7, 8, 25, 26, 27, 8] (by (try dsimp only); exact ⟨by omega, by omega, by rw [hs24]; simp [fill]⟩) rfl (by (try dsimp only); exact EntO.out) ?_
 rintro ⟨k, o⟩ hI
 show VC _ _ _ _ _ [(0, a.val), (1, b.val), (4, .slice none 0 0), (5, .nilIface), (6, l.val), (7, .nilIface), (8, o.val), (25, l.val), (26, i64 (l.l.length : Int)), (27, i64 k), (8, o.val)] _ (Ow.star (Sv.own o 3) (Ow.emp))
 try dsimp only at hI
 obtain ⟨k0, k1, ho⟩ := hI
 refine Zq (Zr ?_)
 refine VL.q (q_lss rfl rfl) (by decide) ?_
 refine Zl ?_
 refine Zq ?_
 refine VC.cond_dec rfl (fun h28 => ?_) (fun h28 => ?_)
 ·
  refine Zk ?_
  refine Zq (Zb (Zq (Zr ?_)))
  obtain ⟨z29, hz29⟩ : ∃ z, l.l[(k).toNat]? = some z := ⟨_, List.getElem?_eq_getElem (by omega)⟩
  refine VL.q (q_ixm (s := l) Tryz.underlying429 sz434 rfl rfl (by omega) (by omega)) (by decide) ?_
  refine VL.q (q_els (s := l) agg434 rfl rfl hz29) (by decide) ?_
  refine VL.alloc (cs := [i64 0, i64 0, i64 0]) (by kernel_rfl) (by decide) fun b10 => ?_
  refine VL.store (vc := [i64 z29.a, i64 z29.b, i64 z29.n]) (cs' := [i64 z29.a, i64 z29.b, i64 z29.n]) rfl rfl rfl sz434 rfl rfl (Nat.le_of_ble_eq_true rfl) rfl ?_
  refine Zl ?_
  refine Zq ?_
  have hbd := mats_bd a.l b.l z29 (by rw [← hl]; exact List.mem_of_getElem? hz29)
  have hlo : o.l.length = a.l.length := by rw [ho, fill_length]; simp
  refine Zr ?_
  refine VL.q (q_field fa434_2 rfl) (by decide) ?_
  refine VL.q (q_fe one3 rfl rfl) (by decide) ?_
  refine Zm ?_
  refine Zl ?_
  refine Zb ?_
  refine VC.loopK (S := Int × Sv Int) (fun sg => 0 ≤ sg.1 ∧ sg.1 ≤ z29.n ∧ sg.2.l = fillN o.l z29 sg.1.toNat) (fun sg => [(0, a.val), (1, b.val), (4, .slice none 0 0), (5, .nilIface), (6, l.val), (7, .nilIface), (25, l.val), (26, i64 (l.l.length : Int)), (27, i64 k), (8, sg.2.val), (10, ptr b10 0), (32, i64 z29.n), (33, i64 sg.1), (8, sg.2.val)]) (fun sg => Ow.star (Sv.own sg.2 3) (Ow.star (Blk b10 [i64 z29.a, i64 z29.b, i64 z29.n] 434) (Ow.emp))) (fun sg => (z29.n - sg.1).toNat) (0, o) [0, 1, 4, 5, 6, 7, 25, 26, 27, 8, 10, 32, 33, 8] (by (try dsimp only); exact ⟨by omega, by omega, rfl⟩) rfl (by (try dsimp only); exact EntO.out) ?_
  rintro ⟨x, p⟩ hI
  show VC _ _ _ _ _ [(0, a.val), (1, b.val), (4, .slice none 0 0), (5, .nilIface), (6, l.val), (7, .nilIface), (25, l.val), (26, i64 (l.l.length : Int)), (27, i64 k), (8, p.val), (10, ptr b10 0), (32, i64 z29.n), (33, i64 x), (8, p.val)] _ (Ow.star (Sv.own p 3) (Ow.star (Blk b10 [i64 z29.a, i64 z29.b, i64 z29.n] 434) (Ow.emp)))
  try dsimp only at hI
  obtain ⟨x0, x1, hp⟩ := hI
  have hlp : p.l.length = o.l.length := by rw [hp, fillN_length]
  refine Zq (Zr ?_)
  refine VL.q (q_lss rfl rfl) (by decide) ?_
  refine Zl ?_
  refine Zq ?_
  refine VC.cond_dec rfl (fun h34 => ?_) (fun h34 => ?_)
  ·
   refine Zk ?_
   refine Zq (Zb (Zq (Zr ?_)))
   refine Zm ?_
   refine Za ?_
   refine Zl ?_
   refine Zr ?_
   refine Zm ?_
   refine VL.q (q_field fa434_0 rfl) (by decide) ?_
   refine VL.q (q_fe one3 rfl rfl) (by decide) ?_
   refine Zm ?_
   refine VL.q (q_add rfl rfl ⟨by omega, by omega⟩) (by decide) ?_
   refine VL.q (q_field fa434_1 rfl) (by decide) ?_
   refine VL.q (q_fe one3 rfl rfl) (by decide) ?_
   refine Zm ?_
   refine VL.q (q_add rfl rfl ⟨by omega, by omega⟩) (by decide) ?_
   obtain ⟨z45, hz45⟩ : ∃ z, p.l[((z29.a + x)).toNat]? = some z := ⟨_, List.getElem?_eq_getElem (by omega)⟩
   refine VL.q (q_ixo (s := p) Tryz.underlying60 sz3 rfl rfl (by omega) (by omega)) (by decide) ?_
   refine VL.storeE (s := p) (T := 3) (j := 0) (vc := [i64 (z29.b + x)]) ((z29.b + x) : Int) (by decide) rfl rfl hz45 rfl sz3 rfl rfl (Nat.le_of_ble_eq_true rfl) rfl (fun w0 hw0 haw0 hcw0 hvw0 hbw0 how0 => ?_)
   rw [← hvw0]
   refine Zl ?_
   refine Zr ?_
   refine VL.q (q_add rfl rfl ⟨by omega, by omega⟩) (by decide) ?_
   refine Zm ?_
   refine VL.anyI ((x + 1), w0) [0, 1, 4, 5, 6, 7, 25, 26, 27, 8, 10, 32, 33, 8] (fun _ _ h => h) ?_ rfl (by (try dsimp only); exact EntO.out)
   try dsimp only
   exact ⟨⟨by omega, by omega, fillN_step x0 hp hw0⟩, by omega⟩
  refine Zx ?_
  refine Zr ?_
  refine VL.q (q_add rfl rfl ⟨by omega, by omega⟩) (by decide) ?_
  refine Zm ?_
  refine VL.anyI ((k + 1), p) [0, 1, 4, 5, 6, 7, 8, 25, 26, 27, 8] (fun _ _ h => h) ?_ rfl (by (try dsimp only); exact EntO.out)
  try dsimp only
  exact ⟨⟨by omega, by omega, by rw [fill_snoc k0 hz29, ← ho, hp]; congr 1; omega⟩, by omega⟩
 refine Zx ?_
 refine Zq (Zr ?_)
 refine Zm ?_
 refine Za ?_
 refine Za ?_
 refine Zl ?_
 refine VC.shut o 3 (fun _ _ _ _ => trivial) ?_
 exact VC.ret (fin2I (.inr rfl) rfl rfl rfl o rfl ((by rw [ho, List.take_of_length_le (by omega), hl]; rfl)) (fun _ _ => trivial))
end Go.Proofs.YtpmhinamcndmeaaGreatDoor
end

section
namespace Go.P
structure Chunk where
  base : List Str
  ours : List Str
  theirs : List Str
  clash : Bool
  out : List Str
deriving DecidableEq
def gapv (b o t : List Str) : Chunk := if o = b then ⟨b, o, t, false, t⟩ else if t = b then ⟨b, o, t, false, o⟩ else if o = t then ⟨b, o, t, false, o⟩ else ⟨b, o, t, true, []⟩
def join : List Str → Str
  | [] => []
  | x :: r => x ++ join r
def closed (l : List Str) : Str := if join l = [] ∨ [10].isSuffixOf (join l) = true then join l else join l ++ [10]
def clashv (c : Chunk) (a b : Str) : Str := [60, 60, 60, 60, 60, 60, 60, 32] ++ a ++ [10] ++ closed c.ours ++ [61, 61, 61, 61, 61, 61, 61, 10] ++ closed c.theirs ++ [62, 62, 62, 62, 62, 62, 62, 32] ++ b ++ [10]
end Go.P
end

section
namespace Go.V
open Go.RowKit
open Go.P hiding Str
structure Ck where
  base : Sv Str
  ours : Sv Str
  theirs : Sv Str
  clash : Bool
  out : Sv Str
@[reducible] def Ck.m (x : Ck) : Mo := x.base.ok.and (x.ours.ok.and (x.theirs.ok.and x.out.ok))
instance : Dat Ck := ⟨5, fun e => [e.base.val, e.ours.val, e.theirs.val, .bool e.clash, e.out.val], fun _ => rfl, fun _ u h => by simp at h; rcases h with h | h | h | h | h <;> subst h <;> rfl, Ck.m⟩
def Ck.pl (x : Ck) : Chunk := ⟨x.base.l, x.ours.l, x.theirs.l, x.clash, x.out.l⟩
end Go.V
namespace Go.V
def OpenO (op : Bool) (x : Ck) : Ow := match op with
  | true => Ow.star (x.base.own 9) (Ow.star (x.ours.own 9) (Ow.star (x.theirs.own 9) (x.out.own 9)))
  | false => Ow.emp
end Go.V
end

section
namespace Go.Proofs.YtpmhinamcndmeaaGreatDoor
open Go.RowKit Go.V
open Go.P hiding Str
theorem sz373 : (Tryz.prog.info? 373).map (·.size) = some 5 := by kernel_rfl
theorem fa373_4 : FieldAt Tryz.prog 373 4 4 := fieldAt_sz (n := 0) (f := ⟨_, _, 4, _, _, _, _⟩) Tryz.underlying373 rfl (by kernel_rfl)
theorem sz32 : (Tryz.prog.info? 32).map (·.size) = some 1 := by kernel_rfl
theorem agg373 : AggOf Tryz.prog 373 5 := aggOf_of Tryz.underlying373 rfl (by kernel_rfl)
theorem fa373_3 : FieldAt Tryz.prog 373 3 3 := fieldAt_sz (n := 0) (f := ⟨_, _, 3, _, _, _, _⟩) Tryz.underlying373 rfl (by kernel_rfl)
theorem sz4 : (Tryz.prog.info? 4).map (·.size) = some 1 := by kernel_rfl
set_option maxRecDepth 100000 in
 theorem gap_ct (a b d : Sv Str) (ha : a.l.length ≤ 1048576) (hb : b.l.length ≤ 1048576) (hd : d.l.length ≤ 1048576) :
 Ct Tryz.prog 373 [a.val, b.val, d.val] (a.ok.and (b.ok.and d.ok)) Ow.emp (X := Ck) (fun x => .agg (Dat.enc x).toArray) (fun x => x.pl = gapv a.l b.l d.l) (fun x => x.m) (fun _ => Ow.emp) := by
 refine Ct.of Tryz.func373 rfl (by kernel_rfl) Tryz.ntmps373 (by simp) fun c => ?_
 refine Zq (Zr ?_)
 refine VL.alloc (cs := [.slice none 0 0, .slice none 0 0, .slice none 0 0, .bool false, .slice none 0 0]) (by kernel_rfl) (by decide) fun b6 => ?_
 refine Zl ?_
 refine Zq (Zr ?_)
 refine Zm ?_
 refine VL.callF (some_ct a (by first | assumption | omega)) rfl (by decide) ?_
 rintro s9 hs9
 refine Zm ?_
 refine VL.callF (some_ct b (by first | assumption | omega)) rfl (by decide) ?_
 rintro s11 hs11
 refine Zm ?_
 refine VL.callF (some_ct d (by first | assumption | omega)) rfl (by decide) ?_
 rintro s13 hs13
 refine VL.q (q_build (vs := [(0, s9.val), (1, s11.val), (2, s13.val)]) (cs := #[s9.val, s11.val, s13.val, .bool false, .slice none 0 0]) rfl (by kernel_rfl)) (by decide) ?_
 refine VL.alloc (cs := [.slice none 0 0, .slice none 0 0, .slice none 0 0, .bool false, .slice none 0 0]) (by kernel_rfl) (by decide) fun b7 => ?_
 refine VL.store (vc := [s9.val, s11.val, s13.val, .bool false, .slice none 0 0]) (cs' := [s9.val, s11.val, s13.val, .bool false, .slice none 0 0]) rfl rfl rfl sz373 rfl rfl (Nat.le_of_ble_eq_true rfl) rfl ?_
 refine Zl ?_
 refine Zq (Zb (Zq (Zr ?_)))
 refine Zm ?_
 refine Zm ?_
 refine VL.q (q_call (equal_ct b a) rfl (fun _ _ => rfl)) (by decide) ?_
 refine Za ?_
 refine Zl ?_
 refine VC.cond_dec rfl (fun h16 => ?_) (fun h16 => ?_)
 ·
  refine Zr ?_
  refine Zm ?_
  refine VL.callF (some_ct d (by first | assumption | omega)) rfl (by decide) ?_
  rintro s21 hs21
  refine VL.q (q_field fa373_4 rfl) (by decide) ?_
  refine VL.store (vc := [s21.val]) (cs' := [s9.val, s11.val, s13.val, .bool false, s21.val]) rfl rfl rfl sz32 rfl rfl (Nat.le_of_ble_eq_true rfl) rfl ?_
  refine Zl ?_
  refine Zq (Zr ?_)
  refine VL.q (q_fes agg373 rfl rfl) (by decide) ?_
  refine VL.store (vc := [s9.val, s11.val, s13.val, .bool false, s21.val]) (cs' := [s9.val, s11.val, s13.val, .bool false, s21.val]) rfl rfl rfl sz373 rfl rfl (Nat.le_of_ble_eq_true rfl) rfl ?_
  refine Zl ?_
  exact VC.ret (finC (cs := [s9.val, s11.val, s13.val, .bool false, s21.val]) (.inr rfl) rfl agg373 rfl rfl Rd.blk ⟨s9, s11, s13, false, s21⟩ rfl ((by simp [Ck.pl, gapv, *])) (fun h m => InM.out h m) (fun _ _ => trivial))
 refine Zq (Zq (Zr ?_))
 refine Zm ?_
 refine Zm ?_
 refine VL.q (q_call (equal_ct d a) rfl (fun _ _ => rfl)) (by decide) ?_
 refine Za ?_
 refine Zl ?_
 refine VC.cond_dec rfl (fun h23 => ?_) (fun h23 => ?_)
 ·
  refine VC.setv 23 rfl (congrArg Value.bool (decide_eq_true h23)) ?_
  refine Zk ?_
  refine VC.cond_t rfl ?_
  refine Zr ?_
  refine Zm ?_
  refine VL.callF (some_ct b (by first | assumption | omega)) rfl (by decide) ?_
  rintro s31 hs31
  refine VL.q (q_field fa373_4 rfl) (by decide) ?_
  refine VL.store (vc := [s31.val]) (cs' := [s9.val, s11.val, s13.val, .bool false, s31.val]) rfl rfl rfl sz32 rfl rfl (Nat.le_of_ble_eq_true rfl) rfl ?_
  refine Zl ?_
  refine Zq (Zr ?_)
  refine VL.q (q_fes agg373 rfl rfl) (by decide) ?_
  refine VL.store (vc := [s9.val, s11.val, s13.val, .bool false, s31.val]) (cs' := [s9.val, s11.val, s13.val, .bool false, s31.val]) rfl rfl rfl sz373 rfl rfl (Nat.le_of_ble_eq_true rfl) rfl ?_
  refine Zl ?_
  exact VC.ret (finC (cs := [s9.val, s11.val, s13.val, .bool false, s31.val]) (.inr rfl) rfl agg373 rfl rfl Rd.blk ⟨s9, s11, s13, false, s31⟩ rfl ((by simp [Ck.pl, gapv, *])) (fun h m => InM.out h m) (fun _ _ => trivial))
 refine VC.setv 23 rfl (congrArg Value.bool (decide_eq_false h23)) ?_
 refine Zr ?_
 refine Zm ?_
 refine Zm ?_
 refine VL.q (q_call (equal_ct b d) rfl (fun _ _ => rfl)) (by decide) ?_
 refine Za ?_
 refine Zl ?_
 refine VC.cond_dec rfl (fun h23 => ?_) (fun h23 => ?_)
 ·
  refine VC.setv 23 rfl (congrArg Value.bool (decide_eq_true h23)) ?_
  refine Zr ?_
  refine Zm ?_
  refine VL.callF (some_ct b (by first | assumption | omega)) rfl (by decide) ?_
  rintro s31 hs31
  refine VL.q (q_field fa373_4 rfl) (by decide) ?_
  refine VL.store (vc := [s31.val]) (cs' := [s9.val, s11.val, s13.val, .bool false, s31.val]) rfl rfl rfl sz32 rfl rfl (Nat.le_of_ble_eq_true rfl) rfl ?_
  refine Zl ?_
  refine Zq (Zr ?_)
  refine VL.q (q_fes agg373 rfl rfl) (by decide) ?_
  refine VL.store (vc := [s9.val, s11.val, s13.val, .bool false, s31.val]) (cs' := [s9.val, s11.val, s13.val, .bool false, s31.val]) rfl rfl rfl sz373 rfl rfl (Nat.le_of_ble_eq_true rfl) rfl ?_
  refine Zl ?_
  exact VC.ret (finC (cs := [s9.val, s11.val, s13.val, .bool false, s31.val]) (.inr rfl) rfl agg373 rfl rfl Rd.blk ⟨s9, s11, s13, false, s31⟩ rfl ((by simp [Ck.pl, gapv, *])) (fun h m => InM.out h m) (fun _ _ => trivial))
 refine VC.setv 23 rfl (congrArg Value.bool (decide_eq_false h23)) ?_
 refine Zr ?_
 refine VL.q (q_field fa373_3 rfl) (by decide) ?_
 refine VL.store (vc := [.bool true]) (cs' := [s9.val, s11.val, s13.val, .bool true, .slice none 0 0]) rfl rfl rfl sz4 rfl rfl (Nat.le_of_ble_eq_true rfl) rfl ?_
 refine Zl ?_
 refine Zq (Zr ?_)
 refine VL.q (q_fes agg373 rfl rfl) (by decide) ?_
 refine VL.store (vc := [s9.val, s11.val, s13.val, .bool true, .slice none 0 0]) (cs' := [s9.val, s11.val, s13.val, .bool true, .slice none 0 0]) rfl rfl rfl sz373 rfl rfl (Nat.le_of_ble_eq_true rfl) rfl ?_
 refine Zl ?_
 exact VC.ret (finC (cs := [s9.val, s11.val, s13.val, .bool true, .slice none 0 0]) (.inr rfl) rfl agg373 rfl rfl Rd.blk ⟨s9, s11, s13, true, ⟨none, 0, []⟩⟩ rfl ((by simp [Ck.pl, gapv, *])) (fun h m => InM.out h m) (fun _ _ => trivial))
end Go.Proofs.YtpmhinamcndmeaaGreatDoor
end

section
namespace Go.Proofs.YtpmhinamcndmeaaGreatDoor
open Go.RowKit Go.V
open Go.P hiding Str
theorem fa407_3 : FieldAt Tryz.prog 407 3 3 := fieldAt_sz (n := 0) (f := ⟨_, _, 3, _, _, _, _⟩) Tryz.underlying407 rfl (by kernel_rfl)
theorem fa407_6 : FieldAt Tryz.prog 407 6 6 := fieldAt_sz (n := 0) (f := ⟨_, _, 6, _, _, _, _⟩) Tryz.underlying407 rfl (by kernel_rfl)
theorem one369 : OneCell Tryz.prog 369 := oneCell_of Tryz.underlying369 rfl
theorem fa407_0 : FieldAt Tryz.prog 407 0 0 := fieldAt_sz (n := 0) (f := ⟨_, _, 0, _, _, _, _⟩) Tryz.underlying407 rfl (by kernel_rfl)
theorem fa407_1 : FieldAt Tryz.prog 407 1 1 := fieldAt_sz (n := 0) (f := ⟨_, _, 1, _, _, _, _⟩) Tryz.underlying407 rfl (by kernel_rfl)
theorem fa407_4 : FieldAt Tryz.prog 407 4 4 := fieldAt_sz (n := 0) (f := ⟨_, _, 4, _, _, _, _⟩) Tryz.underlying407 rfl (by kernel_rfl)
theorem fa407_2 : FieldAt Tryz.prog 407 2 2 := fieldAt_sz (n := 0) (f := ⟨_, _, 2, _, _, _, _⟩) Tryz.underlying407 rfl (by kernel_rfl)
theorem fa407_5 : FieldAt Tryz.prog 407 5 5 := fieldAt_sz (n := 0) (f := ⟨_, _, 5, _, _, _, _⟩) Tryz.underlying407 rfl (by kernel_rfl)
theorem lit373 : ((Tryz.prog.info? 373).map fun i => (i.size, i.zero.isSome)) = some (5, true) := by kernel_rfl
theorem app373 : ((Tryz.prog.info? 373).map fun i => (i.size, i.bytes, (i.zero.map fun z => z.cells.size))) = some (5, 104, some 5) := by kernel_rfl
theorem sz369 : (Tryz.prog.info? 369).map (·.size) = some 1 := by kernel_rfl
theorem fa407_7 : FieldAt Tryz.prog 407 7 7 := fieldAt_sz (n := 0) (f := ⟨_, _, 7, _, _, _, _⟩) Tryz.underlying407 rfl (by kernel_rfl)
set_option maxHeartbeats 8000000 in
 set_option maxRecDepth 100000 in
 theorem upto_ct (p : Nat) (bv ov tv : Sv Str) (out : Sv Ck) (op : Bool) (i j k i' j' k' : Int) (hput : i < i' ∨ j < j' ∨ k < k') (i0 : 0 ≤ i) (i1 : i ≤ i') (i2 : i' ≤ bv.l.length) (j0 : 0 ≤ j) (j1 : j ≤ j') (j2 : j' ≤ ov.l.length) (k0 : 0 ≤ k) (k1 : k ≤ k') (k2 : k' ≤ tv.l.length) (hb : bv.l.length ≤ 256) (ho : ov.l.length ≤ 256) (ht : tv.l.length ≤ 256) (hl : out.l.length ≤ 1048576) :
 Ct Tryz.prog 344 [ptr p 0, i64 i', i64 j', i64 k'] (bv.ok.and (ov.ok.and tv.ok)) (Ow.star (Blk p [bv.val, ov.val, tv.val, i64 i, i64 j, i64 k, out.val, .bool op] 407) (out.own 373)) (X := Sv Ck × Ck) (fun _ => .tuple #[]) (fun x => x.1.l = out.l ++ [x.2] ∧ x.2.pl = gapv ((bv.l.drop i.toNat).take (i'.toNat - i.toNat)) ((ov.l.drop j.toNat).take (j'.toNat - j.toNat)) ((tv.l.drop k.toNat).take (k'.toNat - k.toNat))) (fun x => x.2.m) (fun x => Ow.star (Blk p [bv.val, ov.val, tv.val, i64 i', i64 j', i64 k', x.1.val, .bool false] 407) (x.1.own 373)) := by
 refine Ct.of Tryz.func344 rfl (by kernel_rfl) Tryz.ntmps344 (by simp) fun c => ?_
 refine Zq (Zq (Zr ?_))
 refine Zm ?_
 refine Zm ?_
 refine VL.q (q_nilCheck rfl) (by decide) ?_
 refine VL.q (q_field fa407_3 rfl) (by decide) ?_
 refine VL.q (q_fe one3 rfl rfl) (by decide) ?_
 refine VL.q (q_gtr rfl rfl) (by decide) ?_
 refine Zm ?_
 refine VL.split_dec 14 rfl (fun h14 => ?_) (fun h14 => ?_)
 ·
  refine Zn ?_
  refine Zn ?_
  refine Zn ?_
  refine Zn ?_
  refine Zn ?_
  refine Zn ?_
  refine Zt ?_
  refine Zm ?_
  refine Zn ?_
  refine Zn ?_
  refine Zn ?_
  refine Zn ?_
  refine Zn ?_
  refine Zn ?_
  refine Zt ?_
  refine Zl ?_
  refine VC.cond_t rfl ?_
  refine Zq ?_
  refine VC.draw [(0, true), (1, true), (2, true), (3, true), (4, true), (5, true), (6, true), (7, true), (8, true), (9, true), (10, true), (11, true), (12, true), (13, true), (14, true), (15, true), (16, true), (17, true), (18, true), (19, true), (20, true), (21, true), (22, true), (23, true), (24, true), (25, true), (26, true), (27, true), (28, true), (29, true), (30, true), (31, true), (32, true), (33, true), (34, true), (35, false), (36, false), (37, false), (38, true), (39, true), (40, false)] mixed (by kernel_rfl) (by kernel_rfl) (by kernel_rfl) ?_
  refine VD.q rfl (q_move rfl) (by decide) ?_
  refine VD.q rfl (q_move rfl) (by decide) ?_
  refine VD.q rfl (q_nilCheck rfl) (by decide) ?_
  refine VD.q rfl (q_field fa407_6 rfl) (by decide) ?_
  refine VD.q rfl (q_fe one369 rfl rfl) (by decide) ?_
  refine VD.q rfl (q_move rfl) (by decide) ?_
  refine VD.q rfl (q_nilCheck rfl) (by decide) ?_
  refine VD.q rfl (q_field fa407_0 rfl) (by decide) ?_
  refine VD.q rfl (q_fe one32 rfl rfl) (by decide) ?_
  refine VD.q rfl (q_move rfl) (by decide) ?_
  refine VD.q rfl (q_nilCheck rfl) (by decide) ?_
  refine VD.q rfl (q_field fa407_3 rfl) (by decide) ?_
  refine VD.q rfl (q_fe one3 rfl rfl) (by decide) ?_
  refine VD.q rfl (q_move rfl) (by decide) ?_
  refine VD.part (s := bv) rfl ((i).toNat) ((i').toNat) Tryz.underlying32 sz9 rfl rfl rfl rfl (by show i = _; omega) (by show i' = _; omega) (.inl rfl) (fun h => by cases h) (by omega) (by omega) (by decide) (fun s44 _ hs44 => ?_)
  refine VD.q rfl (q_move rfl) (by decide) ?_
  refine VD.q rfl (q_nilCheck rfl) (by decide) ?_
  refine VD.q rfl (q_field fa407_1 rfl) (by decide) ?_
  refine VD.q rfl (q_fe one32 rfl rfl) (by decide) ?_
  refine VD.q rfl (q_move rfl) (by decide) ?_
  refine VD.q rfl (q_nilCheck rfl) (by decide) ?_
  refine VD.q rfl (q_field fa407_4 rfl) (by decide) ?_
  refine VD.q rfl (q_fe one3 rfl rfl) (by decide) ?_
  refine VD.q rfl (q_move rfl) (by decide) ?_
  refine VD.part (s := ov) rfl ((j).toNat) ((j').toNat) Tryz.underlying32 sz9 rfl rfl rfl rfl (by show j = _; omega) (by show j' = _; omega) (.inl rfl) (fun h => by cases h) (by omega) (by omega) (by decide) (fun s54 _ hs54 => ?_)
  refine VD.q rfl (q_move rfl) (by decide) ?_
  refine VD.q rfl (q_nilCheck rfl) (by decide) ?_
  refine VD.q rfl (q_field fa407_2 rfl) (by decide) ?_
  refine VD.q rfl (q_fe one32 rfl rfl) (by decide) ?_
  refine VD.q rfl (q_move rfl) (by decide) ?_
  refine VD.q rfl (q_nilCheck rfl) (by decide) ?_
  refine VD.q rfl (q_field fa407_5 rfl) (by decide) ?_
  refine VD.q rfl (q_fe one3 rfl rfl) (by decide) ?_
  refine VD.q rfl (q_move rfl) (by decide) ?_
  refine VD.part (s := tv) rfl ((k).toNat) ((k').toNat) Tryz.underlying32 sz9 rfl rfl rfl rfl (by show k = _; omega) (by show k' = _; omega) (.inl rfl) (fun h => by cases h) (by omega) (by omega) (by decide) (fun s64 _ hs64 => ?_)
  refine VD.one rfl ?_
  refine VL.callF (gap_ct s44 s54 s64 (by rw [hs44]; simp; omega) (by rw [hs54]; simp; omega) (by rw [hs64]; simp; omega)) rfl (by decide) ?_
  rintro x hx
  refine VL.back (D' := [(4, out.val), (3, ptr p 6), (2, ptr p 0)]) (by kernel_rfl) (Pend.cons rfl (q_fe one369 rfl rfl) (Pend.cons rfl (q_field fa407_6 rfl) (Pend.cons rfl (q_nilCheck rfl) (Pend.nil)))) ?_
  refine VD.one rfl ?_
  refine VL.lit (α := Ck) (xs := [.tmp 65]) (vs := [.agg #[x.base.val, x.ours.val, x.theirs.val, .bool x.clash, x.out.val]]) [x] Tryz.underlying369 lit373 (by decide) rfl rfl rfl rfl (by decide) (fun h m z hz => by cases List.mem_singleton.1 hz; exact InM.out (X := x.m) h m) (by decide) (fun s66 hs66 => ?_) (by decide)
  refine VL.back (D' := [(4, out.val), (3, ptr p 6), (2, ptr p 0)]) (by kernel_rfl) (Pend.cons rfl (q_fe one369 rfl rfl) (Pend.cons rfl (q_field fa407_6 rfl) (Pend.cons rfl (q_nilCheck rfl) (Pend.nil)))) ?_
  refine VD.one rfl ?_
  refine VL.app (s := out) (r := s66) Tryz.underlying369 app373 (by decide) rfl Fo.out (by rw [hs66]; simp; omega) (by rw [hs66]; simp; omega) (by decide) (fun s67 hs67 => ?_)
  refine VL.back (D' := []) (by kernel_rfl) (Pend.nil) ?_
  refine VD.q rfl (q_nilCheck rfl) (by decide) ?_
  refine VD.q rfl (q_field fa407_6 rfl) (by decide) ?_
  refine VD.one rfl ?_
  refine VL.store (vc := [s67.val]) (cs' := [bv.val, ov.val, tv.val, i64 i, i64 j, i64 k, s67.val, .bool op]) rfl rfl rfl sz369 rfl rfl (Nat.le_of_ble_eq_true rfl) rfl ?_
  refine VL.back (D' := []) (by kernel_rfl) (Pend.nil) ?_
  refine VD.to (fun _ _ h => h) ?_
  refine Zr ?_
  refine Zm ?_
  refine VL.q (q_nilCheck rfl) (by decide) ?_
  refine VL.q (q_field fa407_7 rfl) (by decide) ?_
  refine VL.store (vc := [.bool false]) (cs' := [bv.val, ov.val, tv.val, i64 i, i64 j, i64 k, s67.val, .bool false]) rfl rfl rfl sz4 rfl rfl (Nat.le_of_ble_eq_true rfl) rfl ?_
  refine Zl ?_
  refine Zr ?_
  refine Zm ?_
  refine Zm ?_
  refine Zm ?_
  refine Zm ?_
  refine Zm ?_
  refine Zm ?_
  refine VL.q (q_nilCheck rfl) (by decide) ?_
  refine VL.q (q_field fa407_3 rfl) (by decide) ?_
  refine VL.store (vc := [i64 i']) (cs' := [bv.val, ov.val, tv.val, i64 i', i64 j, i64 k, s67.val, .bool false]) rfl rfl rfl sz3 rfl rfl (Nat.le_of_ble_eq_true rfl) rfl ?_
  refine VL.q (q_nilCheck rfl) (by decide) ?_
  refine VL.q (q_field fa407_4 rfl) (by decide) ?_
  refine VL.store (vc := [i64 j']) (cs' := [bv.val, ov.val, tv.val, i64 i', i64 j', i64 k, s67.val, .bool false]) rfl rfl rfl sz3 rfl rfl (Nat.le_of_ble_eq_true rfl) rfl ?_
  refine VL.q (q_nilCheck rfl) (by decide) ?_
  refine VL.q (q_field fa407_5 rfl) (by decide) ?_
  refine VL.store (vc := [i64 k']) (cs' := [bv.val, ov.val, tv.val, i64 i', i64 j', i64 k', s67.val, .bool false]) rfl rfl rfl sz3 rfl rfl (Nat.le_of_ble_eq_true rfl) rfl ?_
  exact VL.nil (fin0I (.inl rfl) rfl (s67, x) rfl (⟨by rw [hs67, hs66], by rw [hx, hs44, hs54, hs64]⟩) EntO.out)
 refine Zg ?_
 refine Zg ?_
 refine VL.gy rfl rfl (q_nilCheck rfl) (by decide) ?_
 refine VL.gy rfl rfl (q_field fa407_4 rfl) (by decide) ?_
 refine VL.gy rfl rfl (q_fe one3 rfl rfl) (by decide) ?_
 refine VL.gy rfl rfl (q_gtr rfl rfl) (by decide) ?_
 refine Zf ?_
 refine Zm ?_
 refine VL.split_dec 22 rfl (fun h22 => ?_) (fun h22 => ?_)
 ·
  refine Zn ?_
  refine Zn ?_
  refine Zn ?_
  refine Zn ?_
  refine Zn ?_
  refine Zn ?_
  refine Zt ?_
  refine Zl ?_
  refine VC.cond_t rfl ?_
  refine Zq ?_
  refine VC.draw [(0, true), (1, true), (2, true), (3, true), (4, true), (5, true), (6, true), (7, true), (8, true), (9, true), (10, true), (11, true), (12, true), (13, true), (14, true), (15, true), (16, true), (17, true), (18, true), (19, true), (20, true), (21, true), (22, true), (23, true), (24, true), (25, true), (26, true), (27, true), (28, true), (29, true), (30, true), (31, true), (32, true), (33, true), (34, true), (35, false), (36, false), (37, false), (38, true), (39, true), (40, false)] mixed (by kernel_rfl) (by kernel_rfl) (by kernel_rfl) ?_
  refine VD.q rfl (q_move rfl) (by decide) ?_
  refine VD.q rfl (q_move rfl) (by decide) ?_
  refine VD.q rfl (q_nilCheck rfl) (by decide) ?_
  refine VD.q rfl (q_field fa407_6 rfl) (by decide) ?_
  refine VD.q rfl (q_fe one369 rfl rfl) (by decide) ?_
  refine VD.q rfl (q_move rfl) (by decide) ?_
  refine VD.q rfl (q_nilCheck rfl) (by decide) ?_
  refine VD.q rfl (q_field fa407_0 rfl) (by decide) ?_
  refine VD.q rfl (q_fe one32 rfl rfl) (by decide) ?_
  refine VD.q rfl (q_move rfl) (by decide) ?_
  refine VD.q rfl (q_nilCheck rfl) (by decide) ?_
  refine VD.q rfl (q_field fa407_3 rfl) (by decide) ?_
  refine VD.q rfl (q_fe one3 rfl rfl) (by decide) ?_
  refine VD.q rfl (q_move rfl) (by decide) ?_
  refine VD.part (s := bv) rfl ((i).toNat) ((i').toNat) Tryz.underlying32 sz9 rfl rfl rfl rfl (by show i = _; omega) (by show i' = _; omega) (.inl rfl) (fun h => by cases h) (by omega) (by omega) (by decide) (fun s44 _ hs44 => ?_)
  refine VD.q rfl (q_move rfl) (by decide) ?_
  refine VD.q rfl (q_nilCheck rfl) (by decide) ?_
  refine VD.q rfl (q_field fa407_1 rfl) (by decide) ?_
  refine VD.q rfl (q_fe one32 rfl rfl) (by decide) ?_
  refine VD.q rfl (q_move rfl) (by decide) ?_
  refine VD.q rfl (q_nilCheck rfl) (by decide) ?_
  refine VD.q rfl (q_field fa407_4 rfl) (by decide) ?_
  refine VD.q rfl (q_fe one3 rfl rfl) (by decide) ?_
  refine VD.q rfl (q_move rfl) (by decide) ?_
  refine VD.part (s := ov) rfl ((j).toNat) ((j').toNat) Tryz.underlying32 sz9 rfl rfl rfl rfl (by show j = _; omega) (by show j' = _; omega) (.inl rfl) (fun h => by cases h) (by omega) (by omega) (by decide) (fun s54 _ hs54 => ?_)
  refine VD.q rfl (q_move rfl) (by decide) ?_
  refine VD.q rfl (q_nilCheck rfl) (by decide) ?_
  refine VD.q rfl (q_field fa407_2 rfl) (by decide) ?_
  refine VD.q rfl (q_fe one32 rfl rfl) (by decide) ?_
  refine VD.q rfl (q_move rfl) (by decide) ?_
  refine VD.q rfl (q_nilCheck rfl) (by decide) ?_
  refine VD.q rfl (q_field fa407_5 rfl) (by decide) ?_
  refine VD.q rfl (q_fe one3 rfl rfl) (by decide) ?_
  refine VD.q rfl (q_move rfl) (by decide) ?_
  refine VD.part (s := tv) rfl ((k).toNat) ((k').toNat) Tryz.underlying32 sz9 rfl rfl rfl rfl (by show k = _; omega) (by show k' = _; omega) (.inl rfl) (fun h => by cases h) (by omega) (by omega) (by decide) (fun s64 _ hs64 => ?_)
  refine VD.one rfl ?_
  refine VL.callF (gap_ct s44 s54 s64 (by rw [hs44]; simp; omega) (by rw [hs54]; simp; omega) (by rw [hs64]; simp; omega)) rfl (by decide) ?_
  rintro x hx
  refine VL.back (D' := [(4, out.val), (3, ptr p 6), (2, ptr p 0)]) (by kernel_rfl) (Pend.cons rfl (q_fe one369 rfl rfl) (Pend.cons rfl (q_field fa407_6 rfl) (Pend.cons rfl (q_nilCheck rfl) (Pend.nil)))) ?_
  refine VD.one rfl ?_
  refine VL.lit (α := Ck) (xs := [.tmp 65]) (vs := [.agg #[x.base.val, x.ours.val, x.theirs.val, .bool x.clash, x.out.val]]) [x] Tryz.underlying369 lit373 (by decide) rfl rfl rfl rfl (by decide) (fun h m z hz => by cases List.mem_singleton.1 hz; exact InM.out (X := x.m) h m) (by decide) (fun s66 hs66 => ?_) (by decide)
  refine VL.back (D' := [(4, out.val), (3, ptr p 6), (2, ptr p 0)]) (by kernel_rfl) (Pend.cons rfl (q_fe one369 rfl rfl) (Pend.cons rfl (q_field fa407_6 rfl) (Pend.cons rfl (q_nilCheck rfl) (Pend.nil)))) ?_
  refine VD.one rfl ?_
  refine VL.app (s := out) (r := s66) Tryz.underlying369 app373 (by decide) rfl Fo.out (by rw [hs66]; simp; omega) (by rw [hs66]; simp; omega) (by decide) (fun s67 hs67 => ?_)
  refine VL.back (D' := []) (by kernel_rfl) (Pend.nil) ?_
  refine VD.q rfl (q_nilCheck rfl) (by decide) ?_
  refine VD.q rfl (q_field fa407_6 rfl) (by decide) ?_
  refine VD.one rfl ?_
  refine VL.store (vc := [s67.val]) (cs' := [bv.val, ov.val, tv.val, i64 i, i64 j, i64 k, s67.val, .bool op]) rfl rfl rfl sz369 rfl rfl (Nat.le_of_ble_eq_true rfl) rfl ?_
  refine VL.back (D' := []) (by kernel_rfl) (Pend.nil) ?_
  refine VD.to (fun _ _ h => h) ?_
  refine Zr ?_
  refine Zm ?_
  refine VL.q (q_nilCheck rfl) (by decide) ?_
  refine VL.q (q_field fa407_7 rfl) (by decide) ?_
  refine VL.store (vc := [.bool false]) (cs' := [bv.val, ov.val, tv.val, i64 i, i64 j, i64 k, s67.val, .bool false]) rfl rfl rfl sz4 rfl rfl (Nat.le_of_ble_eq_true rfl) rfl ?_
  refine Zl ?_
  refine Zr ?_
  refine Zm ?_
  refine Zm ?_
  refine Zm ?_
  refine Zm ?_
  refine Zm ?_
  refine Zm ?_
  refine VL.q (q_nilCheck rfl) (by decide) ?_
  refine VL.q (q_field fa407_3 rfl) (by decide) ?_
  refine VL.store (vc := [i64 i']) (cs' := [bv.val, ov.val, tv.val, i64 i', i64 j, i64 k, s67.val, .bool false]) rfl rfl rfl sz3 rfl rfl (Nat.le_of_ble_eq_true rfl) rfl ?_
  refine VL.q (q_nilCheck rfl) (by decide) ?_
  refine VL.q (q_field fa407_4 rfl) (by decide) ?_
  refine VL.store (vc := [i64 j']) (cs' := [bv.val, ov.val, tv.val, i64 i', i64 j', i64 k, s67.val, .bool false]) rfl rfl rfl sz3 rfl rfl (Nat.le_of_ble_eq_true rfl) rfl ?_
  refine VL.q (q_nilCheck rfl) (by decide) ?_
  refine VL.q (q_field fa407_5 rfl) (by decide) ?_
  refine VL.store (vc := [i64 k']) (cs' := [bv.val, ov.val, tv.val, i64 i', i64 j', i64 k', s67.val, .bool false]) rfl rfl rfl sz3 rfl rfl (Nat.le_of_ble_eq_true rfl) rfl ?_
  exact VL.nil (fin0I (.inl rfl) rfl (s67, x) rfl (⟨by rw [hs67, hs66], by rw [hx, hs44, hs54, hs64]⟩) EntO.out)
 refine Zg ?_
 refine Zg ?_
 refine VL.gy rfl rfl (q_nilCheck rfl) (by decide) ?_
 refine VL.gy rfl rfl (q_field fa407_5 rfl) (by decide) ?_
 refine VL.gy rfl rfl (q_fe one3 rfl rfl) (by decide) ?_
 refine VL.gy rfl rfl (q_gtr rfl rfl) (by decide) ?_
 refine Zf ?_
 refine Zl ?_
 refine VC.cond_dec rfl (fun h29 => ?_) (fun h29 => ?_)
 ·
  refine Zq ?_
  refine VC.draw [(0, true), (1, true), (2, true), (3, true), (4, true), (5, true), (6, true), (7, true), (8, true), (9, true), (10, true), (11, true), (12, true), (13, true), (14, true), (15, true), (16, true), (17, true), (18, true), (19, true), (20, true), (21, true), (22, true), (23, true), (24, true), (25, true), (26, true), (27, true), (28, true), (29, true), (30, true), (31, true), (32, true), (33, true), (34, true), (35, false), (36, false), (37, false), (38, true), (39, true), (40, false)] mixed (by kernel_rfl) (by kernel_rfl) (by kernel_rfl) ?_
  refine VD.q rfl (q_move rfl) (by decide) ?_
  refine VD.q rfl (q_move rfl) (by decide) ?_
  refine VD.q rfl (q_nilCheck rfl) (by decide) ?_
  refine VD.q rfl (q_field fa407_6 rfl) (by decide) ?_
  refine VD.q rfl (q_fe one369 rfl rfl) (by decide) ?_
  refine VD.q rfl (q_move rfl) (by decide) ?_
  refine VD.q rfl (q_nilCheck rfl) (by decide) ?_
  refine VD.q rfl (q_field fa407_0 rfl) (by decide) ?_
  refine VD.q rfl (q_fe one32 rfl rfl) (by decide) ?_
  refine VD.q rfl (q_move rfl) (by decide) ?_
  refine VD.q rfl (q_nilCheck rfl) (by decide) ?_
  refine VD.q rfl (q_field fa407_3 rfl) (by decide) ?_
  refine VD.q rfl (q_fe one3 rfl rfl) (by decide) ?_
  refine VD.q rfl (q_move rfl) (by decide) ?_
  refine VD.part (s := bv) rfl ((i).toNat) ((i').toNat) Tryz.underlying32 sz9 rfl rfl rfl rfl (by show i = _; omega) (by show i' = _; omega) (.inl rfl) (fun h => by cases h) (by omega) (by omega) (by decide) (fun s44 _ hs44 => ?_)
  refine VD.q rfl (q_move rfl) (by decide) ?_
  refine VD.q rfl (q_nilCheck rfl) (by decide) ?_
  refine VD.q rfl (q_field fa407_1 rfl) (by decide) ?_
  refine VD.q rfl (q_fe one32 rfl rfl) (by decide) ?_
  refine VD.q rfl (q_move rfl) (by decide) ?_
  refine VD.q rfl (q_nilCheck rfl) (by decide) ?_
  refine VD.q rfl (q_field fa407_4 rfl) (by decide) ?_
  refine VD.q rfl (q_fe one3 rfl rfl) (by decide) ?_
  refine VD.q rfl (q_move rfl) (by decide) ?_
  refine VD.part (s := ov) rfl ((j).toNat) ((j').toNat) Tryz.underlying32 sz9 rfl rfl rfl rfl (by show j = _; omega) (by show j' = _; omega) (.inl rfl) (fun h => by cases h) (by omega) (by omega) (by decide) (fun s54 _ hs54 => ?_)
  refine VD.q rfl (q_move rfl) (by decide) ?_
  refine VD.q rfl (q_nilCheck rfl) (by decide) ?_
  refine VD.q rfl (q_field fa407_2 rfl) (by decide) ?_
  refine VD.q rfl (q_fe one32 rfl rfl) (by decide) ?_
  refine VD.q rfl (q_move rfl) (by decide) ?_
  refine VD.q rfl (q_nilCheck rfl) (by decide) ?_
  refine VD.q rfl (q_field fa407_5 rfl) (by decide) ?_
  refine VD.q rfl (q_fe one3 rfl rfl) (by decide) ?_
  refine VD.q rfl (q_move rfl) (by decide) ?_
  refine VD.part (s := tv) rfl ((k).toNat) ((k').toNat) Tryz.underlying32 sz9 rfl rfl rfl rfl (by show k = _; omega) (by show k' = _; omega) (.inl rfl) (fun h => by cases h) (by omega) (by omega) (by decide) (fun s64 _ hs64 => ?_)
  refine VD.one rfl ?_
  refine VL.callF (gap_ct s44 s54 s64 (by rw [hs44]; simp; omega) (by rw [hs54]; simp; omega) (by rw [hs64]; simp; omega)) rfl (by decide) ?_
  rintro x hx
  refine VL.back (D' := [(4, out.val), (3, ptr p 6), (2, ptr p 0)]) (by kernel_rfl) (Pend.cons rfl (q_fe one369 rfl rfl) (Pend.cons rfl (q_field fa407_6 rfl) (Pend.cons rfl (q_nilCheck rfl) (Pend.nil)))) ?_
  refine VD.one rfl ?_
  refine VL.lit (α := Ck) (xs := [.tmp 65]) (vs := [.agg #[x.base.val, x.ours.val, x.theirs.val, .bool x.clash, x.out.val]]) [x] Tryz.underlying369 lit373 (by decide) rfl rfl rfl rfl (by decide) (fun h m z hz => by cases List.mem_singleton.1 hz; exact InM.out (X := x.m) h m) (by decide) (fun s66 hs66 => ?_) (by decide)
  refine VL.back (D' := [(4, out.val), (3, ptr p 6), (2, ptr p 0)]) (by kernel_rfl) (Pend.cons rfl (q_fe one369 rfl rfl) (Pend.cons rfl (q_field fa407_6 rfl) (Pend.cons rfl (q_nilCheck rfl) (Pend.nil)))) ?_
  refine VD.one rfl ?_
  refine VL.app (s := out) (r := s66) Tryz.underlying369 app373 (by decide) rfl Fo.out (by rw [hs66]; simp; omega) (by rw [hs66]; simp; omega) (by decide) (fun s67 hs67 => ?_)
  refine VL.back (D' := []) (by kernel_rfl) (Pend.nil) ?_
  refine VD.q rfl (q_nilCheck rfl) (by decide) ?_
  refine VD.q rfl (q_field fa407_6 rfl) (by decide) ?_
  refine VD.one rfl ?_
  refine VL.store (vc := [s67.val]) (cs' := [bv.val, ov.val, tv.val, i64 i, i64 j, i64 k, s67.val, .bool op]) rfl rfl rfl sz369 rfl rfl (Nat.le_of_ble_eq_true rfl) rfl ?_
  refine VL.back (D' := []) (by kernel_rfl) (Pend.nil) ?_
  refine VD.to (fun _ _ h => h) ?_
  refine Zr ?_
  refine Zm ?_
  refine VL.q (q_nilCheck rfl) (by decide) ?_
  refine VL.q (q_field fa407_7 rfl) (by decide) ?_
  refine VL.store (vc := [.bool false]) (cs' := [bv.val, ov.val, tv.val, i64 i, i64 j, i64 k, s67.val, .bool false]) rfl rfl rfl sz4 rfl rfl (Nat.le_of_ble_eq_true rfl) rfl ?_
  refine Zl ?_
  refine Zr ?_
  refine Zm ?_
  refine Zm ?_
  refine Zm ?_
  refine Zm ?_
  refine Zm ?_
  refine Zm ?_
  refine VL.q (q_nilCheck rfl) (by decide) ?_
  refine VL.q (q_field fa407_3 rfl) (by decide) ?_
  refine VL.store (vc := [i64 i']) (cs' := [bv.val, ov.val, tv.val, i64 i', i64 j, i64 k, s67.val, .bool false]) rfl rfl rfl sz3 rfl rfl (Nat.le_of_ble_eq_true rfl) rfl ?_
  refine VL.q (q_nilCheck rfl) (by decide) ?_
  refine VL.q (q_field fa407_4 rfl) (by decide) ?_
  refine VL.store (vc := [i64 j']) (cs' := [bv.val, ov.val, tv.val, i64 i', i64 j', i64 k, s67.val, .bool false]) rfl rfl rfl sz3 rfl rfl (Nat.le_of_ble_eq_true rfl) rfl ?_
  refine VL.q (q_nilCheck rfl) (by decide) ?_
  refine VL.q (q_field fa407_5 rfl) (by decide) ?_
  refine VL.store (vc := [i64 k']) (cs' := [bv.val, ov.val, tv.val, i64 i', i64 j', i64 k', s67.val, .bool false]) rfl rfl rfl sz3 rfl rfl (Nat.le_of_ble_eq_true rfl) rfl ?_
  exact VL.nil (fin0I (.inl rfl) rfl (s67, x) rfl (⟨by rw [hs67, hs66], by rw [hx, hs44, hs54, hs64]⟩) EntO.out)
 exact absurd hput (by omega)
end Go.Proofs.YtpmhinamcndmeaaGreatDoor
end

section
namespace Go.Proofs.YtpmhinamcndmeaaGreatDoor
open Go.RowKit Go.V
open Go.P hiding Str
set_option maxHeartbeats 8000000 in
 set_option maxRecDepth 100000 in
 theorem upto_none (p : Nat) (bv ov tv : Sv Str) (out : Sv Ck) (op : Bool) (i j k i' j' k' : Int) (hi : ¬ i < i') (hj : ¬ j < j') (hk : ¬ k < k') :
 Ct Tryz.prog 344 [ptr p 0, i64 i', i64 j', i64 k'] Mo.tt (Blk p [bv.val, ov.val, tv.val, i64 i, i64 j, i64 k, out.val, .bool op] 407) (X := Unit) (fun _ => .tuple #[]) (fun _ => True) (fun _ => Mo.tt) (fun _ => Blk p [bv.val, ov.val, tv.val, i64 i', i64 j', i64 k', out.val, .bool op] 407) := by
 refine Ct.of Tryz.func344 rfl (by kernel_rfl) Tryz.ntmps344 (by simp) fun c => ?_
 refine Zq (Zq (Zr ?_))
 refine Zm ?_
 refine Zm ?_
 refine VL.q (q_nilCheck rfl) (by decide) ?_
 refine VL.q (q_field fa407_3 rfl) (by decide) ?_
 refine VL.q (q_fe one3 rfl rfl) (by decide) ?_
 refine VL.q (q_gtr rfl rfl) (by decide) ?_
 refine Zm ?_
 refine VL.split_dec 14 rfl (fun h14 => ?_) (fun h14 => ?_)
 ·
  exact absurd h14 hi
 refine Zg ?_
 refine Zg ?_
 refine VL.gy rfl rfl (q_nilCheck rfl) (by decide) ?_
 refine VL.gy rfl rfl (q_field fa407_4 rfl) (by decide) ?_
 refine VL.gy rfl rfl (q_fe one3 rfl rfl) (by decide) ?_
 refine VL.gy rfl rfl (q_gtr rfl rfl) (by decide) ?_
 refine Zf ?_
 refine Zm ?_
 refine VL.split_dec 22 rfl (fun h22 => ?_) (fun h22 => ?_)
 ·
  exact absurd h22 hj
 refine Zg ?_
 refine Zg ?_
 refine VL.gy rfl rfl (q_nilCheck rfl) (by decide) ?_
 refine VL.gy rfl rfl (q_field fa407_5 rfl) (by decide) ?_
 refine VL.gy rfl rfl (q_fe one3 rfl rfl) (by decide) ?_
 refine VL.gy rfl rfl (q_gtr rfl rfl) (by decide) ?_
 refine Zf ?_
 refine Zl ?_
 refine VC.cond_dec rfl (fun h29 => ?_) (fun h29 => ?_)
 ·
  exact absurd h29 hk
 refine Zk ?_
 refine Zr ?_
 refine Zm ?_
 refine Zm ?_
 refine Zm ?_
 refine Zm ?_
 refine Zm ?_
 refine Zm ?_
 refine VL.q (q_nilCheck rfl) (by decide) ?_
 refine VL.q (q_field fa407_3 rfl) (by decide) ?_
 refine VL.store (vc := [i64 i']) (cs' := [bv.val, ov.val, tv.val, i64 i', i64 j, i64 k, out.val, .bool op]) rfl rfl rfl sz3 rfl rfl (Nat.le_of_ble_eq_true rfl) rfl ?_
 refine VL.q (q_nilCheck rfl) (by decide) ?_
 refine VL.q (q_field fa407_4 rfl) (by decide) ?_
 refine VL.store (vc := [i64 j']) (cs' := [bv.val, ov.val, tv.val, i64 i', i64 j', i64 k, out.val, .bool op]) rfl rfl rfl sz3 rfl rfl (Nat.le_of_ble_eq_true rfl) rfl ?_
 refine VL.q (q_nilCheck rfl) (by decide) ?_
 refine VL.q (q_field fa407_5 rfl) (by decide) ?_
 refine VL.store (vc := [i64 k']) (cs' := [bv.val, ov.val, tv.val, i64 i', i64 j', i64 k', out.val, .bool op]) rfl rfl rfl sz3 rfl rfl (Nat.le_of_ble_eq_true rfl) rfl ?_
 exact VL.nil (fin0I (.inl rfl) rfl () rfl (trivial) EntO.out)
end Go.Proofs.YtpmhinamcndmeaaGreatDoor
end

section
namespace Go.P
def spl : Str → List Str
  | [] => []
  | c :: r => if c = 10 then [10] :: spl r else match spl r with
    | [] => [[c]]
    | l :: t => (c :: l) :: t
theorem spl_nl (r : Str) : spl (10 :: r) = [10] :: spl r := by simp [spl]
theorem spl_cons {c : UInt8} {r l : Str} {t : List Str} (h : c ≠ 10) (e : spl r = l :: t) : spl (c :: r) = (c :: l) :: t := by simp [spl, h, e]
theorem idx_cons (c : UInt8) (r : Str) : Lib.indexByte (c :: r) 10 = if c = 10 then 0 else if Lib.indexByte r 10 = -1 then -1 else Lib.indexByte r 10 + 1 := by
  simp [Lib.indexByte]
theorem idx_facts : ∀ (s : Str), -1 ≤ Lib.indexByte s 10 ∧ (Lib.indexByte s 10 < s.length)
  | [] => by simp [Lib.indexByte]
  | c :: r => by
    have := idx_facts r
    rw [idx_cons]
    simp only [List.length_cons]
    split
    · omega
    · split <;> omega
theorem spl_cut : ∀ (s : Str), s ≠ [] → ∀ i : Int, (i = Lib.indexByte s 10 ∧ ¬ Lib.indexByte s 10 < 0 ∨ i = s.length - 1 ∧ Lib.indexByte s 10 < 0) → spl s = s.take (i + 1).toNat :: spl (s.drop (i + 1).toNat)
  | [], h, _, _ => absurd rfl h
  | c :: r, _, i, hi => by
    have hf := idx_facts r
    rw [idx_cons] at hi
    by_cases hc : c = 10
    · subst hc
      simp only [if_true] at hi
      have : i = 0 := by omega
      subst this
      simp [spl]
    · simp only [hc, if_false] at hi
      by_cases hr : r = []
      · subst hr
        simp [Lib.indexByte] at hi
        subst hi
        simp [spl, hc]
      · have hlen : 0 < r.length := List.length_pos_iff.2 hr
        have ih := spl_cut r hr (i - 1) (by
          by_cases hq : Lib.indexByte r 10 = -1
          · simp only [hq, if_true, List.length_cons] at hi ⊢; omega
          · simp only [hq, if_false] at hi; omega)
        have h0 : 0 ≤ i - 1 := by
          by_cases hq : Lib.indexByte r 10 = -1
          · simp only [hq, if_true, List.length_cons] at hi; omega
          · simp only [hq, if_false] at hi; omega
        rw [show (i - 1 + 1).toNat = i.toNat by omega] at ih
        rw [show (i + 1).toNat = i.toNat + 1 by omega]
        simpa using spl_cons hc ih
theorem split_step {s s0 : Str} {i : Int} {o p q : List Str} (hs : s ≠ []) (hi : i = Lib.indexByte s 10 ∧ ¬ Lib.indexByte s 10 < 0 ∨ i = s.length - 1 ∧ Lib.indexByte s 10 < 0) (ho : o ++ spl s = spl s0) (hp : p = [s.take (i + 1).toNat]) (hq : q = o ++ p) : q ++ spl (s.drop (i + 1).toNat) = spl s0 := by
  rw [hq, hp, ← ho, spl_cut s hs i hi, List.append_assoc]; rfl
theorem join_flat (l : List Str) : join l = l.flatten := by
  induction l with
  | nil => rfl
  | cons x r ih => simp [join, ih]
theorem join_spl : ∀ s : Str, join (spl s) = s
  | [] => rfl
  | c :: r => by
    have ih := join_spl r
    by_cases hc : c = 10
    · subst hc; rw [spl_nl]; simp [join, ih]
    · cases hr : spl r with
      | nil => rw [hr] at ih; simp [join] at ih; subst ih; simp [spl, hc, join]
      | cons l t => rw [spl_cons hc hr]; rw [hr] at ih; simp [join] at ih ⊢; exact ih
end Go.P
end

section
namespace Go.P
theorem last_get {α : Type} {l fr : List α} {x : α} (h : l = fr ++ [x]) : l[((l.length : Int) - 1).toNat]? = some x := by
  subst h; simp
theorem last_idx {α : Type} {l fr : List α} {x : α} (h : l = fr ++ [x]) : ((l.length : Int) - 1).toNat = fr.length := by
  subst h; simp
theorem last_set {α : Type} {fr : List α} {x z : α} : (fr ++ [x]).set fr.length z = fr ++ [z] := by simp
end Go.P
end
