/- Part of the proofs of: What becomes of one path of any three trees: its file, or none, and whether it clashes, as the document says. -/
import Derived.Shelf.Bits.Mul64
import Derived.Test.YtleokmhhloamaaaGreatDoorProg
import Derived.Test.YtleokmhhloamaaaGreatDoorOA
set_option linter.unusedVariables false
set_option linter.unusedSimpArgs false
set_option linter.unusedSectionVars false
section
namespace Go.Proofs.YtleokmhhloamaaaGreatDoor
open Go.RowKit Go.V
open Go.P hiding Str
theorem fa386_2 : FieldAt Tryz.prog 386 2 2 := fieldAt_sz (n := 0) (f := ⟨_, _, 2, _, _, _, _⟩) Tryz.underlying386 rfl (by kernel_rfl)
theorem one26 : OneCell Tryz.prog 26 := oneCell_of Tryz.underlying26 rfl
theorem fa386_1 : FieldAt Tryz.prog 386 1 1 := fieldAt_sz (n := 0) (f := ⟨_, _, 1, _, _, _, _⟩) Tryz.underlying386 rfl (by kernel_rfl)
theorem one82 : OneCell Tryz.prog 82 := oneCell_of Tryz.underlying82 rfl
theorem sz3 : (Tryz.prog.info? 3).map (·.size) = some 1 := by kernel_rfl
theorem one3 : OneCell Tryz.prog 3 := oneCell_of Tryz.underlying3 rfl
theorem mk3 : ((Tryz.prog.info? 3).map fun i => (i.size, i.bytes, i.zero.map fun z => z.cells.toList)) = some (1, 8, some [i64 0]) := by kernel_rfl
set_option maxRecDepth 100000 in
 theorem at_ct (b0 : Nat) (a b : Sv Str) (n : Sv Int) (i j z : Int) (h0 : 0 ≤ i) (h1 : i ≤ 256) (hb : b.l.length ≤ 256) (hj : 0 ≤ j) (hj1 : j ≤ 256) (hz : n.l[i.toNat * (b.l.length + 1) + j.toNat]? = some z) :
 Ct Tryz.prog 307 [ptr b0 0, i64 i, i64 j] ((Cells b0 0 [a.val, b.val, n.val]).and n.ok) Ow.emp (X := Unit) (fun _ => i64 z) (fun _ => True) (fun _ => Mo.tt) (fun _ => Ow.emp) := by
 obtain ⟨m1, m2, m3⟩ := idx_nat (m := b.l.length) h0 h1 (by omega) (by omega) hj
 simp only [Int.toNat_natCast] at m3
 have hlt := (List.getElem?_eq_some_iff.1 hz).1
 rw [← m3] at hlt hz
 refine Ct.of Tryz.func307 rfl (by kernel_rfl) Tryz.ntmps307 (by simp) fun c => ?_
 refine Zq (Zr ?_)
 refine Za ?_
 refine Zl ?_
 refine Zq ?_
 refine VC.draw ((List.range 17).map fun k => (k, true)) mixed (by kernel_rfl) (by kernel_rfl) (by kernel_rfl) ?_
 refine VD.q rfl (q_move rfl) (by decide) ?_
 refine VD.q rfl (q_nilCheck rfl) (by decide) ?_
 refine VD.q rfl (q_field fa386_2 rfl) (by decide) ?_
 refine VD.q rfl (q_fm one26 rfl rfl) (by decide) ?_
 refine VD.q rfl (q_move rfl) (by decide) ?_
 refine VD.q rfl (q_move rfl) (by decide) ?_
 refine VD.q rfl (q_nilCheck rfl) (by decide) ?_
 refine VD.q rfl (q_field fa386_1 rfl) (by decide) ?_
 refine VD.q rfl (q_fm one82 rfl rfl) (by decide) ?_
 refine VD.q rfl (q_ln (s := b) Tryz.underlying82 rfl) (by decide) ?_
 refine VD.q rfl (q_add rfl rfl ⟨by omega, by omega⟩) (by decide) ?_
 refine VD.q rfl (q_mul rfl rfl ⟨by omega, by omega⟩) (by decide) ?_
 refine VD.q rfl (q_move rfl) (by decide) ?_
 refine VD.q rfl (q_add rfl rfl ⟨by omega, by omega⟩) (by decide) ?_
 have hz21 := hz
 refine VD.q rfl (q_ixm (s := n) Tryz.underlying26 sz3 rfl rfl (by omega) (by omega)) (by decide) ?_
 refine VD.q rfl (q_el (s := n) one3 rfl hz rfl) (by decide) ?_
 refine VD.q rfl (q_assign rfl) (by decide) ?_
 refine VD.to (fun _ _ h => h) ?_
 exact VC.ret (fin1I (.inr rfl) rfl rfl () rfl (trivial) (fun _ _ => trivial))
set_option maxRecDepth 100000 in
 theorem made_ct (a b : Sv Str) (ha : a.l.length ≤ 256) (hb : b.l.length ≤ 256) :
 Ct Tryz.prog 297 [a.val, b.val] (a.ok.and b.ok) Ow.emp (X := Nat × Sv Int) (fun x => .tuple #[ptr x.1 0, .nilIface]) (fun x => Tab a.l b.l x.2.l (fun _ _ => True)) (fun x => (Cells x.1 0 [a.val, b.val, x.2.val]).and x.2.ok) (fun _ => Ow.emp) := by
 refine Ct.of Tryz.func297 rfl (by kernel_rfl) Tryz.ntmps297 (by simp) fun c => ?_
 refine Zq (Zr ?_)
 refine Za ?_
 refine Za ?_
 refine Zl ?_
 refine Zq (Zq (Zr ?_))
 refine Zm ?_
 refine VL.q (q_ln (s := a) Tryz.underlying82 rfl) (by decide) ?_
 refine VL.q (q_gtr rfl rfl) (by decide) ?_
 refine Zl ?_
 refine VC.cond_dec rfl (fun h12 => ?_) (fun h12 => ?_)
 ·
  exact absurd h12 (by omega)
 refine Zk ?_
 refine Zq (Zq (Zr ?_))
 refine Zm ?_
 refine VL.q (q_ln (s := b) Tryz.underlying82 rfl) (by decide) ?_
 refine VL.q (q_gtr rfl rfl) (by decide) ?_
 refine Zl ?_
 refine VC.cond_dec rfl (fun h19 => ?_) (fun h19 => ?_)
 ·
  exact absurd h19 (by omega)
 refine Zk ?_
 refine Zq ?_
 obtain ⟨m1, m2, m3⟩ := idx_nat (i := (a.l.length : Int)) (m := b.l.length) (j := 0) (by omega) (by omega) (by omega) (by omega) (by omega)
 have m4 : ((a.l.length : Int) + 1) * ((b.l.length : Int) + 1) = a.l.length * ((b.l.length : Int) + 1) + (b.l.length + 1) := by rw [Int.add_mul, Int.one_mul]
 refine Zr ?_
 refine Zm ?_
 refine Zm ?_
 refine Zm ?_
 refine VL.q (q_ln (s := a) Tryz.underlying82 rfl) (by decide) ?_
 refine VL.q (q_add rfl rfl ⟨by omega, by omega⟩) (by decide) ?_
 refine Zm ?_
 refine VL.q (q_ln (s := b) Tryz.underlying82 rfl) (by decide) ?_
 refine VL.q (q_add rfl rfl ⟨by omega, by omega⟩) (by decide) ?_
 refine VL.q (q_mul rfl rfl ⟨by omega, by omega⟩) (by decide) ?_
 refine VL.make (α := Int) (z := 0) Tryz.underlying26 mk3 (by decide) rfl rfl (by omega) (by omega) (by omega) (by omega) (by decide) (fun s33 hs33 => ?_)
 refine VL.q (q_build (vs := [(0, a.val), (1, b.val), (2, s33.val)]) (cs := #[a.val, b.val, s33.val]) rfl (by kernel_rfl)) (by decide) ?_
 refine VL.box (cs := [a.val, b.val, s33.val]) rfl rfl (by decide) fun b35 => ?_
 refine Za ?_
 refine Zl ?_
 refine Zq (Zq (Zr ?_))
 refine Zm ?_
 refine VL.q (q_ln (s := a) Tryz.underlying82 rfl) (by decide) ?_
 refine VL.q (q_sub rfl rfl ⟨by omega, by omega⟩) (by decide) ?_
 refine Za ?_
 refine Zl ?_
 refine Zb ?_
 refine VC.loopK (S := Int × Sv Int) (fun sg => -1 ≤ sg.1 ∧ sg.1 < a.l.length ∧ Tab a.l b.l sg.2.l (fun x y => sg.1 < x ∨ x = a.l.length ∨ y = b.l.length)) (fun sg => [(0, a.val), (1, b.val), (4, .pointer none), (5, .nilIface), (6, ptr b35 0), (7, i64 sg.1)]) (fun sg => Ow.star (Blk b35 [a.val, b.val, sg.2.val] 386) (Ow.star (Sv.own sg.2 3) (Ow.emp))) (fun sg => (sg.1 + 1).toNat) (((a.l.length : Int) - 1), s33) [0, 1, 4, 5, 6, 7] (by (try dsimp only); exact ⟨by omega, by omega, P.made_init hs33⟩) rfl (by (try dsimp only); exact EntO.out) ?_
 rintro ⟨i, n⟩ hI
 show VC _ _ _ _ _ [(0, a.val), (1, b.val), (4, .pointer none), (5, .nilIface), (6, ptr b35 0), (7, i64 i)] _ (Ow.star (Blk b35 [a.val, b.val, n.val] 386) (Ow.star (Sv.own n 3) (Ow.emp)))
 try dsimp only at hI
 obtain ⟨h0, h1, hT⟩ := hI
 refine Zq (Zq (Zr ?_))
 refine Zm ?_
 refine VL.q (q_geq rfl rfl) (by decide) ?_
 refine Zl ?_
 refine VC.cond_dec rfl (fun h40 => ?_) (fun h40 => ?_)
 ·
  refine Zk ?_
  refine Zq (Zb (Zq (Zr ?_)))
  refine Zm ?_
  refine VL.q (q_ln (s := b) Tryz.underlying82 rfl) (by decide) ?_
  refine VL.q (q_sub rfl rfl ⟨by omega, by omega⟩) (by decide) ?_
  refine Za ?_
  refine Zl ?_
  refine Zb ?_
  refine VC.loopK (S := Int × Sv Int) (fun sg => -1 ≤ sg.1 ∧ sg.1 < b.l.length ∧ Tab a.l b.l sg.2.l (fun x y => i < x ∨ x = a.l.length ∨ y = b.l.length ∨ (x = i ∧ sg.1 < y))) (fun sg => [(0, a.val), (1, b.val), (4, .pointer none), (5, .nilIface), (6, ptr b35 0), (7, i64 i), (8, i64 sg.1)]) (fun sg => Ow.star (Blk b35 [a.val, b.val, sg.2.val] 386) (Ow.star (Sv.own sg.2 3) (Ow.emp))) (fun sg => (sg.1 + 1).toNat) (((b.l.length : Int) - 1), n) [0, 1, 4, 5, 6, 7, 8] (by (try dsimp only); exact ⟨by omega, by omega, hT.sub fun x y _ _ h => by omega⟩) rfl (by (try dsimp only); exact EntO.out) ?_
  rintro ⟨j, n⟩ hI
  show VC _ _ _ _ _ [(0, a.val), (1, b.val), (4, .pointer none), (5, .nilIface), (6, ptr b35 0), (7, i64 i), (8, i64 j)] _ (Ow.star (Blk b35 [a.val, b.val, n.val] 386) (Ow.star (Sv.own n 3) (Ow.emp)))
  try dsimp only at hI
  obtain ⟨hj0, hj1, hT⟩ := hI
  refine Zq (Zq (Zr ?_))
  refine Zm ?_
  refine VL.q (q_geq rfl rfl) (by decide) ?_
  refine Zl ?_
  refine VC.cond_dec rfl (fun h47 => ?_) (fun h47 => ?_)
  ·
   refine Zk ?_
   refine Zq (Zb (Zq ?_))
   obtain ⟨m1, m2, m3⟩ := idx_nat (i := i) (m := b.l.length) (j := j) (by omega) (by omega) (by omega) (by omega) (by omega)
   have hin := tab_in hT (i := i) (j := j) (by omega) (by omega) ha hb (by omega) (by omega)
   refine Zr ?_
   refine Zm ?_
   refine Zm ?_
   refine VL.q (q_add rfl rfl ⟨by omega, by omega⟩) (by decide) ?_
   refine Zm ?_
   refine VL.q (q_callR (at_ct b35 a b n (i + 1) j (lcs (a.l.drop (i + 1).toNat) (b.l.drop j.toNat) : Int) (by omega) (by omega) (by omega) (by omega) (by omega) (hT.2 _ _ (by omega) (by omega) (by omega))) rfl (fun _ _ => rfl)) (by decide) ?_
   refine Zm ?_
   refine Zm ?_
   refine Zm ?_
   refine VL.q (q_add rfl rfl ⟨by omega, by omega⟩) (by decide) ?_
   refine VL.q (q_callR (at_ct b35 a b n i (j + 1) (lcs (a.l.drop i.toNat) (b.l.drop (j + 1).toNat) : Int) (by omega) (by omega) (by omega) (by omega) (by omega) (hT.2 _ _ (by omega) (by omega) (by omega))) rfl (fun _ _ => rfl)) (by decide) ?_
   refine VL.q (q_max rfl) (by decide) ?_
   refine Za ?_
   refine Zl ?_
   refine Zq (Zq ?_)
   refine VC.draw ((List.range 9).map fun k => (k, true)) mixed (by kernel_rfl) (by kernel_rfl) (by kernel_rfl) ?_
   refine VD.q rfl (q_move rfl) (by decide) ?_
   refine VD.q rfl (q_move rfl) (by decide) ?_
   obtain ⟨z63, hz63⟩ : ∃ z, a.l[(i).toNat]? = some z := ⟨_, List.getElem?_eq_getElem (by omega)⟩
   refine VD.q rfl (q_ixm (s := a) Tryz.underlying82 sz9 rfl rfl (by omega) (by omega)) (by decide) ?_
   refine VD.q rfl (q_el (s := a) one9 rfl hz63 rfl) (by decide) ?_
   refine VD.q rfl (q_move rfl) (by decide) ?_
   refine VD.q rfl (q_move rfl) (by decide) ?_
   obtain ⟨z67, hz67⟩ : ∃ z, b.l[(j).toNat]? = some z := ⟨_, List.getElem?_eq_getElem (by omega)⟩
   refine VD.q rfl (q_ixm (s := b) Tryz.underlying82 sz9 rfl rfl (by omega) (by omega)) (by decide) ?_
   refine VD.q rfl (q_el (s := b) one9 rfl hz67 rfl) (by decide) ?_
   refine VD.q rfl (q_seq rfl rfl) (by decide) ?_
   refine VD.to (fun _ _ h => h) ?_
   refine VC.cond_dec rfl (fun h69 => ?_) (fun h69 => ?_)
   ·
    have hle := lcs_drop_le a.l b.l (i + 1).toNat (j + 1).toNat
    refine Zr ?_
    refine Zm ?_
    refine Zm ?_
    refine VL.q (q_add rfl rfl ⟨by omega, by omega⟩) (by decide) ?_
    refine Zm ?_
    refine VL.q (q_add rfl rfl ⟨by omega, by omega⟩) (by decide) ?_
    refine VL.q (q_callR (at_ct b35 a b n (i + 1) (j + 1) (lcs (a.l.drop (i + 1).toNat) (b.l.drop (j + 1).toNat) : Int) (by omega) (by omega) (by omega) (by omega) (by omega) (hT.2 _ _ (by omega) (by omega) (by omega))) rfl (fun _ _ => rfl)) (by decide) ?_
    refine VL.q (q_add rfl rfl ⟨by omega, by omega⟩) (by decide) ?_
    refine Za ?_
    refine Zl ?_
    refine Zr ?_
    refine Zm ?_
    refine VL.q (q_nilCheck rfl) (by decide) ?_
    refine VL.q (q_field fa386_2 rfl) (by decide) ?_
    refine VL.q (q_fe one26 rfl rfl) (by decide) ?_
    refine Zm ?_
    refine Zm ?_
    refine VL.q (q_ln (s := b) Tryz.underlying82 rfl) (by decide) ?_
    refine VL.q (q_add rfl rfl ⟨by omega, by omega⟩) (by decide) ?_
    refine VL.q (q_mul rfl rfl ⟨by omega, by omega⟩) (by decide) ?_
    refine Zm ?_
    refine VL.q (q_add rfl rfl ⟨by omega, by omega⟩) (by decide) ?_
    refine Zm ?_
    obtain ⟨z89, hz89⟩ : ∃ z, n.l[(((i * ((b.l.length : Int) + 1)) + j)).toNat]? = some z := ⟨_, List.getElem?_eq_getElem (by omega)⟩
    refine VL.q (q_ixo (s := n) Tryz.underlying26 sz3 rfl rfl (by omega) (by omega)) (by decide) ?_
    refine VL.storeE (s := n) (T := 3) (j := 0) (vc := [i64 ((lcs (a.l.drop (i + 1).toNat) (b.l.drop (j + 1).toNat) : Int) + 1)]) (((lcs (a.l.drop (i + 1).toNat) (b.l.drop (j + 1).toNat) : Int) + 1) : Int) (by decide) rfl rfl hz89 rfl sz3 rfl rfl (Nat.le_of_ble_eq_true rfl) rfl (fun w0 hw0 haw0 hcw0 hvw0 hbw0 how0 => ?_)
    rw [← hvw0]
    refine Zl ?_
    refine Zr ?_
    refine Zm ?_
    refine VL.q (q_sub rfl rfl ⟨by omega, by omega⟩) (by decide) ?_
    refine Za ?_
    refine VL.anyI ((j - 1), w0) [0, 1, 4, 5, 6, 7, 8] (fun _ _ h => h) ?_ rfl (by (try dsimp only); exact EntO.out)
    try dsimp only
    exact ⟨⟨by omega, by omega, tab_step hT (by omega) (by omega) ha hb hz63 hz67 (by rw [if_pos h69]) hw0⟩, by omega⟩
   refine Zk ?_
   refine Zr ?_
   refine Zm ?_
   refine VL.q (q_nilCheck rfl) (by decide) ?_
   refine VL.q (q_field fa386_2 rfl) (by decide) ?_
   refine VL.q (q_fe one26 rfl rfl) (by decide) ?_
   refine Zm ?_
   refine Zm ?_
   refine VL.q (q_ln (s := b) Tryz.underlying82 rfl) (by decide) ?_
   refine VL.q (q_add rfl rfl ⟨by omega, by omega⟩) (by decide) ?_
   refine VL.q (q_mul rfl rfl ⟨by omega, by omega⟩) (by decide) ?_
   refine Zm ?_
   refine VL.q (q_add rfl rfl ⟨by omega, by omega⟩) (by decide) ?_
   refine Zm ?_
   obtain ⟨z89, hz89⟩ : ∃ z, n.l[(((i * ((b.l.length : Int) + 1)) + j)).toNat]? = some z := ⟨_, List.getElem?_eq_getElem (by omega)⟩
   refine VL.q (q_ixo (s := n) Tryz.underlying26 sz3 rfl rfl (by omega) (by omega)) (by decide) ?_
   refine VL.storeE (s := n) (T := 3) (j := 0) (vc := [i64 (max (lcs (a.l.drop (i + 1).toNat) (b.l.drop j.toNat) : Int) (lcs (a.l.drop i.toNat) (b.l.drop (j + 1).toNat) : Int))]) ((max (lcs (a.l.drop (i + 1).toNat) (b.l.drop j.toNat) : Int) (lcs (a.l.drop i.toNat) (b.l.drop (j + 1).toNat) : Int)) : Int) (by decide) rfl rfl hz89 rfl sz3 rfl rfl (Nat.le_of_ble_eq_true rfl) rfl (fun w1 hw1 haw1 hcw1 hvw1 hbw1 how1 => ?_)
   rw [← hvw1]
   refine Zl ?_
   refine Zr ?_
   refine Zm ?_
   refine VL.q (q_sub rfl rfl ⟨by omega, by omega⟩) (by decide) ?_
   refine Za ?_
   refine VL.anyI ((j - 1), w1) [0, 1, 4, 5, 6, 7, 8] (fun _ _ h => h) ?_ rfl (by (try dsimp only); exact EntO.out)
   try dsimp only
   exact ⟨⟨by omega, by omega, tab_step hT (by omega) (by omega) ha hb hz63 hz67 (by rw [if_neg h69]) hw1⟩, by omega⟩
  refine Zx ?_
  refine Zr ?_
  refine Zm ?_
  refine VL.q (q_sub rfl rfl ⟨by omega, by omega⟩) (by decide) ?_
  refine Za ?_
  refine VL.anyI ((i - 1), n) [0, 1, 4, 5, 6, 7] (fun _ _ h => h) ?_ rfl (by (try dsimp only); exact EntO.out)
  try dsimp only
  exact ⟨⟨by omega, by omega, hT.sub fun x y _ _ h => by omega⟩, by omega⟩
 refine Zx ?_
 refine Zq (Zr ?_)
 refine Zm ?_
 refine Za ?_
 refine Za ?_
 refine Zl ?_
 refine VC.shutB b35 ?_
 refine VC.shut n 3 (fun _ _ _ _ => trivial) ?_
 exact VC.ret (fin2I (.inr rfl) rfl rfl rfl (b35, n) rfl ((hT.sub fun x y _ _ _ => by omega)) (fun _ _ => trivial))
end Go.Proofs.YtleokmhhloamaaaGreatDoor
end

section
namespace Go.Proofs.YtleokmhhloamaaaGreatDoor
open Go.RowKit Go.V
open Go.P hiding Str
theorem fa386_0 : FieldAt Tryz.prog 386 0 0 := fieldAt_sz (n := 0) (f := ⟨_, _, 0, _, _, _, _⟩) Tryz.underlying386 rfl (by kernel_rfl)
set_option maxRecDepth 100000 in
 theorem step_ct (b0 : Nat) (a b : Sv Str) (n : Sv Int) (i j : Int) (hi0 : 0 ≤ i) (hi1 : i ≤ a.l.length) (hj0 : 0 ≤ j) (hj1 : j ≤ b.l.length) (ha : a.l.length ≤ 256) (hb : b.l.length ≤ 256) (hT : Tab a.l b.l n.l (fun _ _ => True)) :
 Ct Tryz.prog 298 [ptr b0 0, i64 i, i64 j] (((Cells b0 0 [a.val, b.val, n.val]).and n.ok).and (a.ok.and b.ok)) Ow.emp (X := Unit) (fun _ => i64 (stepv (a.l.drop i.toNat) (b.l.drop j.toNat))) (fun _ => True) (fun _ => Mo.tt) (fun _ => Ow.emp) := by
 refine Ct.of Tryz.func298 rfl (by kernel_rfl) Tryz.ntmps298 (by simp) fun c => ?_
 refine Zq (Zr ?_)
 refine Za ?_
 refine Zl ?_
 refine Zq (Zb (Zq ?_))
 refine VC.draw ((List.range 34).map fun k => (k, true)) mixed (by kernel_rfl) (by kernel_rfl) (by kernel_rfl) ?_
 refine VD.q rfl (q_move rfl) (by decide) ?_
 refine VD.q rfl (q_move rfl) (by decide) ?_
 refine VD.q rfl (q_nilCheck rfl) (by decide) ?_
 refine VD.q rfl (q_field fa386_0 rfl) (by decide) ?_
 refine VD.q rfl (q_fm one82 rfl rfl) (by decide) ?_
 refine VD.q rfl (q_ln (s := a) Tryz.underlying82 rfl) (by decide) ?_
 refine VD.q rfl (q_lss rfl rfl) (by decide) ?_
 refine VD.q rfl (q_move rfl) (by decide) ?_
 refine VD.split_dec 15 rfl (fun h15 => ?_) (fun h15 => ?_)
 ·
  refine VD.gy rfl rfl rfl (q_move rfl) (by decide) ?_
  refine VD.gy rfl rfl rfl (q_move rfl) (by decide) ?_
  refine VD.gy rfl rfl rfl (q_nilCheck rfl) (by decide) ?_
  refine VD.gy rfl rfl rfl (q_field fa386_1 rfl) (by decide) ?_
  refine VD.gy rfl rfl rfl (q_fm one82 rfl rfl) (by decide) ?_
  refine VD.gy rfl rfl rfl (q_ln (s := b) Tryz.underlying82 rfl) (by decide) ?_
  refine VD.gy rfl rfl rfl (q_lss rfl rfl) (by decide) ?_
  refine VD.q rfl (q_pick_t rfl rfl) (by decide) ?_
  refine VD.q rfl (q_move rfl) (by decide) ?_
  refine VD.split_dec 24 rfl (fun h24 => ?_) (fun h24 => ?_)
  ·
   refine VD.gy rfl rfl rfl (q_move rfl) (by decide) ?_
   refine VD.gy rfl rfl rfl (q_nilCheck rfl) (by decide) ?_
   refine VD.gy rfl rfl rfl (q_field fa386_0 rfl) (by decide) ?_
   refine VD.gy rfl rfl rfl (q_fm one82 rfl rfl) (by decide) ?_
   refine VD.gy rfl rfl rfl (q_move rfl) (by decide) ?_
   obtain ⟨z30, hz30⟩ : ∃ z, a.l[(i).toNat]? = some z := ⟨_, List.getElem?_eq_getElem (by omega)⟩
   refine VD.gy rfl rfl rfl (q_ixm (s := a) Tryz.underlying82 sz9 rfl rfl (by omega) (by omega)) (by decide) ?_
   refine VD.gy rfl rfl rfl (q_el (s := a) one9 rfl hz30 rfl) (by decide) ?_
   refine VD.gy rfl rfl rfl (q_move rfl) (by decide) ?_
   refine VD.gy rfl rfl rfl (q_nilCheck rfl) (by decide) ?_
   refine VD.gy rfl rfl rfl (q_field fa386_1 rfl) (by decide) ?_
   refine VD.gy rfl rfl rfl (q_fm one82 rfl rfl) (by decide) ?_
   refine VD.gy rfl rfl rfl (q_move rfl) (by decide) ?_
   obtain ⟨z37, hz37⟩ : ∃ z, b.l[(j).toNat]? = some z := ⟨_, List.getElem?_eq_getElem (by omega)⟩
   refine VD.gy rfl rfl rfl (q_ixm (s := b) Tryz.underlying82 sz9 rfl rfl (by omega) (by omega)) (by decide) ?_
   refine VD.gy rfl rfl rfl (q_el (s := b) one9 rfl hz37 rfl) (by decide) ?_
   refine VD.gy rfl rfl rfl (q_seq rfl rfl) (by decide) ?_
   refine VD.q rfl (q_pick_t rfl rfl) (by decide) ?_
   refine VD.q rfl (q_assign rfl) (by decide) ?_
   refine VD.to (fun _ _ h => h) ?_
   refine VC.cond_dec rfl (fun h7 => ?_) (fun h7 => ?_)
   ·
    refine Zq (Zr ?_)
    refine Za ?_
    refine Zl ?_
    exact VC.ret (fin1I (.inr rfl) rfl rfl () (congrArg i64 (by first | exact stepv_a hi0 (by omega) | exact stepv_b hi0 (by omega) hj0 (by omega) | exact stepv_1 hz30 hz37 (by assumption) | exact stepv_2 hi0 hj0 hz30 hz37 (by assumption) (by assumption) | exact stepv_3 hi0 hj0 hz30 hz37 (by assumption) (by assumption))) (trivial) (fun _ _ => trivial))
   refine Zq (Zr ?_)
   refine Zm ?_
   refine Zm ?_
   refine VL.q (q_nilCheck rfl) (by decide) ?_
   refine VL.q (q_field fa386_0 rfl) (by decide) ?_
   refine VL.q (q_fm one82 rfl rfl) (by decide) ?_
   refine VL.q (q_ln (s := a) Tryz.underlying82 rfl) (by decide) ?_
   refine VL.q (q_lss rfl rfl) (by decide) ?_
   refine Zm ?_
   refine VL.split_dec 49 rfl (fun h49 => ?_) (fun h49 => ?_)
   ·
    refine Zg ?_
    refine Zg ?_
    refine VL.gy rfl rfl (q_nilCheck rfl) (by decide) ?_
    refine VL.gy rfl rfl (q_field fa386_1 rfl) (by decide) ?_
    refine VL.gy rfl rfl (q_fm one82 rfl rfl) (by decide) ?_
    refine VL.gy rfl rfl (q_ln (s := b) Tryz.underlying82 rfl) (by decide) ?_
    refine VL.gy rfl rfl (q_eql rfl rfl) (by decide) ?_
    refine Zg ?_
    refine VL.split_dec 57 rfl (fun h57 => ?_) (fun h57 => ?_)
    ·
     refine Zn ?_
     refine Zn ?_
     refine Zn ?_
     refine Zn ?_
     refine Zn ?_
     refine Zn ?_
     refine Zn ?_
     refine Zn ?_
     refine Zn ?_
     refine Zn ?_
     refine Zn ?_
     refine VL.gy rfl rfl (q_pick_t rfl rfl) (by decide) ?_
     refine Zt ?_
     refine Za ?_
     refine Zl ?_
     refine VC.cond_t rfl ?_
     refine Zq (Zr ?_)
     refine Za ?_
     refine Zl ?_
     exact VC.ret (fin1I (.inr rfl) rfl rfl () (congrArg i64 (by first | exact stepv_a hi0 (by omega) | exact stepv_b hi0 (by omega) hj0 (by omega) | exact stepv_1 hz30 hz37 (by assumption) | exact stepv_2 hi0 hj0 hz30 hz37 (by assumption) (by assumption) | exact stepv_3 hi0 hj0 hz30 hz37 (by assumption) (by assumption))) (trivial) (fun _ _ => trivial))
    refine Zg ?_
    refine Zg ?_
    refine VL.gy rfl rfl (q_add rfl rfl ⟨by omega, by omega⟩) (by decide) ?_
    refine Zg ?_
    refine VL.gy rfl rfl (q_call (at_ct b0 a b n (i + 1) j (lcs (a.l.drop (i + 1).toNat) (b.l.drop j.toNat) : Int) (by omega) (by omega) (by omega) (by omega) (by omega) (hT.2 _ _ (by omega) (by omega) (by trivial))) rfl (fun _ _ => rfl)) (by decide) ?_
    refine Zg ?_
    refine Zg ?_
    refine Zg ?_
    refine VL.gy rfl rfl (q_add rfl rfl ⟨by omega, by omega⟩) (by decide) ?_
    refine VL.gy rfl rfl (q_call (at_ct b0 a b n i (j + 1) (lcs (a.l.drop i.toNat) (b.l.drop (j + 1).toNat) : Int) (by omega) (by omega) (by omega) (by omega) (by omega) (hT.2 _ _ (by omega) (by omega) (by trivial))) rfl (fun _ _ => rfl)) (by decide) ?_
    refine VL.gy rfl rfl (q_geq rfl rfl) (by decide) ?_
    refine VL.gy rfl rfl (q_pick_f rfl rfl) (by decide) ?_
    refine Zt ?_
    refine Za ?_
    refine Zl ?_
    refine VC.cond_dec rfl (fun h41 => ?_) (fun h41 => ?_)
    ·
     refine Zq (Zr ?_)
     refine Za ?_
     refine Zl ?_
     exact VC.ret (fin1I (.inr rfl) rfl rfl () (congrArg i64 (by first | exact stepv_a hi0 (by omega) | exact stepv_b hi0 (by omega) hj0 (by omega) | exact stepv_1 hz30 hz37 (by assumption) | exact stepv_2 hi0 hj0 hz30 hz37 (by assumption) (by assumption) | exact stepv_3 hi0 hj0 hz30 hz37 (by assumption) (by assumption))) (trivial) (fun _ _ => trivial))
    refine Zk ?_
    refine Zq (Zr ?_)
    refine Za ?_
    refine Zl ?_
    exact VC.ret (fin1I (.inr rfl) rfl rfl () (congrArg i64 (by first | exact stepv_a hi0 (by omega) | exact stepv_b hi0 (by omega) hj0 (by omega) | exact stepv_1 hz30 hz37 (by assumption) | exact stepv_2 hi0 hj0 hz30 hz37 (by assumption) (by assumption) | exact stepv_3 hi0 hj0 hz30 hz37 (by assumption) (by assumption))) (trivial) (fun _ _ => trivial))
   refine Zn ?_
   refine Zn ?_
   refine Zn ?_
   refine Zn ?_
   refine Zn ?_
   refine Zn ?_
   refine Zn ?_
   refine Zn ?_
   refine VL.gu rfl rfl (by decide) ?_
   refine VL.gu rfl rfl (by decide) ?_
   refine VL.gu rfl rfl (by decide) ?_
   refine VL.gu rfl rfl (by decide) ?_
   refine VL.gu rfl rfl (by decide) ?_
   refine VL.gu rfl rfl (by decide) ?_
   refine VL.gu rfl rfl (by decide) ?_
   refine VL.gu rfl rfl (by decide) ?_
   refine VL.gu rfl rfl (by decide) ?_
   refine VL.gu rfl rfl (by decide) ?_
   refine VL.gu rfl rfl (by decide) ?_
   refine Zn ?_
   refine Zf ?_
   refine Za ?_
   refine Zl ?_
   refine VC.cond_f rfl ?_
   refine Zk ?_
   refine Zq (Zr ?_)
   refine Za ?_
   refine Zl ?_
   exact VC.ret (fin1I (.inr rfl) rfl rfl () (congrArg i64 (by first | exact stepv_a hi0 (by omega) | exact stepv_b hi0 (by omega) hj0 (by omega) | exact stepv_1 hz30 hz37 (by assumption) | exact stepv_2 hi0 hj0 hz30 hz37 (by assumption) (by assumption) | exact stepv_3 hi0 hj0 hz30 hz37 (by assumption) (by assumption))) (trivial) (fun _ _ => trivial))
  refine Zd ?_
  refine Zd ?_
  refine Zd ?_
  refine Zd ?_
  refine Zd ?_
  refine Zd ?_
  refine Zd ?_
  refine Zd ?_
  refine Zd ?_
  refine Zd ?_
  refine Zd ?_
  refine Zd ?_
  refine Zd ?_
  refine Zd ?_
  refine Zd ?_
  refine VD.q rfl (q_pick_f rfl rfl) (by decide) ?_
  refine VD.q rfl (q_assign rfl) (by decide) ?_
  refine VD.to (fun _ _ h => h) ?_
  refine VC.cond_f rfl ?_
  refine Zq (Zr ?_)
  refine Zm ?_
  refine Zm ?_
  refine VL.q (q_nilCheck rfl) (by decide) ?_
  refine VL.q (q_field fa386_0 rfl) (by decide) ?_
  refine VL.q (q_fm one82 rfl rfl) (by decide) ?_
  refine VL.q (q_ln (s := a) Tryz.underlying82 rfl) (by decide) ?_
  refine VL.q (q_lss rfl rfl) (by decide) ?_
  refine Zm ?_
  refine VL.split_dec 49 rfl (fun h49 => ?_) (fun h49 => ?_)
  ·
   refine Zg ?_
   refine Zg ?_
   refine VL.gy rfl rfl (q_nilCheck rfl) (by decide) ?_
   refine VL.gy rfl rfl (q_field fa386_1 rfl) (by decide) ?_
   refine VL.gy rfl rfl (q_fm one82 rfl rfl) (by decide) ?_
   refine VL.gy rfl rfl (q_ln (s := b) Tryz.underlying82 rfl) (by decide) ?_
   refine VL.gy rfl rfl (q_eql rfl rfl) (by decide) ?_
   refine Zg ?_
   refine VL.split_dec 57 rfl (fun h57 => ?_) (fun h57 => ?_)
   ·
    refine Zn ?_
    refine Zn ?_
    refine Zn ?_
    refine Zn ?_
    refine Zn ?_
    refine Zn ?_
    refine Zn ?_
    refine Zn ?_
    refine Zn ?_
    refine Zn ?_
    refine Zn ?_
    refine VL.gy rfl rfl (q_pick_t rfl rfl) (by decide) ?_
    refine Zt ?_
    refine Za ?_
    refine Zl ?_
    refine VC.cond_t rfl ?_
    refine Zq (Zr ?_)
    refine Za ?_
    refine Zl ?_
    exact VC.ret (fin1I (.inr rfl) rfl rfl () (congrArg i64 (by first | exact stepv_a hi0 (by omega) | exact stepv_b hi0 (by omega) hj0 (by omega) | exact stepv_1 hz30 hz37 (by assumption) | exact stepv_2 hi0 hj0 hz30 hz37 (by assumption) (by assumption) | exact stepv_3 hi0 hj0 hz30 hz37 (by assumption) (by assumption))) (trivial) (fun _ _ => trivial))
   refine Zg ?_
   refine Zg ?_
   refine VL.gy rfl rfl (q_add rfl rfl ⟨by omega, by omega⟩) (by decide) ?_
   refine Zg ?_
   refine VL.gy rfl rfl (q_call (at_ct b0 a b n (i + 1) j (lcs (a.l.drop (i + 1).toNat) (b.l.drop j.toNat) : Int) (by omega) (by omega) (by omega) (by omega) (by omega) (hT.2 _ _ (by omega) (by omega) (by trivial))) rfl (fun _ _ => rfl)) (by decide) ?_
   refine Zg ?_
   refine Zg ?_
   refine Zg ?_
   refine VL.gy rfl rfl (q_add rfl rfl ⟨by omega, by omega⟩) (by decide) ?_
   refine VL.gy rfl rfl (q_call (at_ct b0 a b n i (j + 1) (lcs (a.l.drop i.toNat) (b.l.drop (j + 1).toNat) : Int) (by omega) (by omega) (by omega) (by omega) (by omega) (hT.2 _ _ (by omega) (by omega) (by trivial))) rfl (fun _ _ => rfl)) (by decide) ?_
   refine VL.gy rfl rfl (q_geq rfl rfl) (by decide) ?_
   refine VL.gy rfl rfl (q_pick_f rfl rfl) (by decide) ?_
   refine Zt ?_
   refine Za ?_
   refine Zl ?_
   refine VC.cond_dec rfl (fun h41 => ?_) (fun h41 => ?_)
   ·
    refine Zq (Zr ?_)
    refine Za ?_
    refine Zl ?_
    exact VC.ret (fin1I (.inr rfl) rfl rfl () (congrArg i64 (by first | exact stepv_a hi0 (by omega) | exact stepv_b hi0 (by omega) hj0 (by omega) | exact stepv_1 hz30 hz37 (by assumption) | exact stepv_2 hi0 hj0 hz30 hz37 (by assumption) (by assumption) | exact stepv_3 hi0 hj0 hz30 hz37 (by assumption) (by assumption))) (trivial) (fun _ _ => trivial))
   refine Zk ?_
   refine Zq (Zr ?_)
   refine Za ?_
   refine Zl ?_
   exact VC.ret (fin1I (.inr rfl) rfl rfl () (congrArg i64 (by first | exact stepv_a hi0 (by omega) | exact stepv_b hi0 (by omega) hj0 (by omega) | exact stepv_1 hz30 hz37 (by assumption) | exact stepv_2 hi0 hj0 hz30 hz37 (by assumption) (by assumption) | exact stepv_3 hi0 hj0 hz30 hz37 (by assumption) (by assumption))) (trivial) (fun _ _ => trivial))
  refine Zn ?_
  refine Zn ?_
  refine Zn ?_
  refine Zn ?_
  refine Zn ?_
  refine Zn ?_
  refine Zn ?_
  refine Zn ?_
  refine VL.gu rfl rfl (by decide) ?_
  refine VL.gu rfl rfl (by decide) ?_
  refine VL.gu rfl rfl (by decide) ?_
  refine VL.gu rfl rfl (by decide) ?_
  refine VL.gu rfl rfl (by decide) ?_
  refine VL.gu rfl rfl (by decide) ?_
  refine VL.gu rfl rfl (by decide) ?_
  refine VL.gu rfl rfl (by decide) ?_
  refine VL.gu rfl rfl (by decide) ?_
  refine VL.gu rfl rfl (by decide) ?_
  refine VL.gu rfl rfl (by decide) ?_
  refine Zn ?_
  refine Zf ?_
  refine Za ?_
  refine Zl ?_
  refine VC.cond_f rfl ?_
  refine Zk ?_
  refine Zq (Zr ?_)
  refine Za ?_
  refine Zl ?_
  exact VC.ret (fin1I (.inr rfl) rfl rfl () (congrArg i64 (by first | exact stepv_a hi0 (by omega) | exact stepv_b hi0 (by omega) hj0 (by omega) | exact stepv_1 hz30 hz37 (by assumption) | exact stepv_2 hi0 hj0 hz30 hz37 (by assumption) (by assumption) | exact stepv_3 hi0 hj0 hz30 hz37 (by assumption) (by assumption))) (trivial) (fun _ _ => trivial))
 refine Zd ?_
 refine Zd ?_
 refine Zd ?_
 refine Zd ?_
 refine Zd ?_
 refine Zd ?_
 refine Zd ?_
 refine VD.q rfl (q_pick_f rfl rfl) (by decide) ?_
 refine VD.q rfl (q_move rfl) (by decide) ?_
 refine Zd ?_
 refine Zd ?_
 refine Zd ?_
 refine Zd ?_
 refine Zd ?_
 refine Zd ?_
 refine Zd ?_
 refine Zd ?_
 refine Zd ?_
 refine Zd ?_
 refine Zd ?_
 refine Zd ?_
 refine Zd ?_
 refine Zd ?_
 refine Zd ?_
 refine VD.q rfl (q_pick_f rfl rfl) (by decide) ?_
 refine VD.q rfl (q_assign rfl) (by decide) ?_
 refine VD.to (fun _ _ h => h) ?_
 refine VC.cond_f rfl ?_
 refine Zq (Zr ?_)
 refine Zm ?_
 refine Zm ?_
 refine VL.q (q_nilCheck rfl) (by decide) ?_
 refine VL.q (q_field fa386_0 rfl) (by decide) ?_
 refine VL.q (q_fm one82 rfl rfl) (by decide) ?_
 refine VL.q (q_ln (s := a) Tryz.underlying82 rfl) (by decide) ?_
 refine VL.q (q_lss rfl rfl) (by decide) ?_
 refine Zm ?_
 refine VL.split_dec 49 rfl (fun h49 => ?_) (fun h49 => ?_)
 ·
  refine Zg ?_
  refine Zg ?_
  refine VL.gy rfl rfl (q_nilCheck rfl) (by decide) ?_
  refine VL.gy rfl rfl (q_field fa386_1 rfl) (by decide) ?_
  refine VL.gy rfl rfl (q_fm one82 rfl rfl) (by decide) ?_
  refine VL.gy rfl rfl (q_ln (s := b) Tryz.underlying82 rfl) (by decide) ?_
  refine VL.gy rfl rfl (q_eql rfl rfl) (by decide) ?_
  refine Zg ?_
  refine VL.split_dec 57 rfl (fun h57 => ?_) (fun h57 => ?_)
  ·
   refine Zn ?_
   refine Zn ?_
   refine Zn ?_
   refine Zn ?_
   refine Zn ?_
   refine Zn ?_
   refine Zn ?_
   refine Zn ?_
   refine Zn ?_
   refine Zn ?_
   refine Zn ?_
   refine VL.gy rfl rfl (q_pick_t rfl rfl) (by decide) ?_
   refine Zt ?_
   refine Za ?_
   refine Zl ?_
   refine VC.cond_t rfl ?_
   refine Zq (Zr ?_)
   refine Za ?_
   refine Zl ?_
   exact VC.ret (fin1I (.inr rfl) rfl rfl () (congrArg i64 (by first | exact stepv_a hi0 (by omega) | exact stepv_b hi0 (by omega) hj0 (by omega) | exact stepv_1 hz30 hz37 (by assumption) | exact stepv_2 hi0 hj0 hz30 hz37 (by assumption) (by assumption) | exact stepv_3 hi0 hj0 hz30 hz37 (by assumption) (by assumption))) (trivial) (fun _ _ => trivial))
  refine Zg ?_
  refine Zg ?_
  refine VL.gy rfl rfl (q_add rfl rfl ⟨by omega, by omega⟩) (by decide) ?_
  refine Zg ?_
  refine VL.gy rfl rfl (q_call (at_ct b0 a b n (i + 1) j (lcs (a.l.drop (i + 1).toNat) (b.l.drop j.toNat) : Int) (by omega) (by omega) (by omega) (by omega) (by omega) (hT.2 _ _ (by omega) (by omega) (by trivial))) rfl (fun _ _ => rfl)) (by decide) ?_
  refine Zg ?_
  refine Zg ?_
  refine Zg ?_
  refine VL.gy rfl rfl (q_add rfl rfl ⟨by omega, by omega⟩) (by decide) ?_
  refine VL.gy rfl rfl (q_call (at_ct b0 a b n i (j + 1) (lcs (a.l.drop i.toNat) (b.l.drop (j + 1).toNat) : Int) (by omega) (by omega) (by omega) (by omega) (by omega) (hT.2 _ _ (by omega) (by omega) (by trivial))) rfl (fun _ _ => rfl)) (by decide) ?_
  refine VL.gy rfl rfl (q_geq rfl rfl) (by decide) ?_
  refine VL.gy rfl rfl (q_pick_f rfl rfl) (by decide) ?_
  refine Zt ?_
  refine Za ?_
  refine Zl ?_
  refine VC.cond_dec rfl (fun h41 => ?_) (fun h41 => ?_)
  ·
   refine Zq (Zr ?_)
   refine Za ?_
   refine Zl ?_
   exact VC.ret (fin1I (.inr rfl) rfl rfl () (congrArg i64 (by first | exact stepv_a hi0 (by omega) | exact stepv_b hi0 (by omega) hj0 (by omega) | exact stepv_1 hz30 hz37 (by assumption) | exact stepv_2 hi0 hj0 hz30 hz37 (by assumption) (by assumption) | exact stepv_3 hi0 hj0 hz30 hz37 (by assumption) (by assumption))) (trivial) (fun _ _ => trivial))
  refine Zk ?_
  refine Zq (Zr ?_)
  refine Za ?_
  refine Zl ?_
  exact VC.ret (fin1I (.inr rfl) rfl rfl () (congrArg i64 (by first | exact stepv_a hi0 (by omega) | exact stepv_b hi0 (by omega) hj0 (by omega) | exact stepv_1 hz30 hz37 (by assumption) | exact stepv_2 hi0 hj0 hz30 hz37 (by assumption) (by assumption) | exact stepv_3 hi0 hj0 hz30 hz37 (by assumption) (by assumption))) (trivial) (fun _ _ => trivial))
 refine Zn ?_
 refine Zn ?_
 refine Zn ?_
 refine Zn ?_
 refine Zn ?_
 refine Zn ?_
 refine Zn ?_
 refine Zn ?_
 refine VL.gu rfl rfl (by decide) ?_
 refine VL.gu rfl rfl (by decide) ?_
 refine VL.gu rfl rfl (by decide) ?_
 refine VL.gu rfl rfl (by decide) ?_
 refine VL.gu rfl rfl (by decide) ?_
 refine VL.gu rfl rfl (by decide) ?_
 refine VL.gu rfl rfl (by decide) ?_
 refine VL.gu rfl rfl (by decide) ?_
 refine VL.gu rfl rfl (by decide) ?_
 refine VL.gu rfl rfl (by decide) ?_
 refine VL.gu rfl rfl (by decide) ?_
 refine Zn ?_
 refine Zf ?_
 refine Za ?_
 refine Zl ?_
 refine VC.cond_f rfl ?_
 refine Zk ?_
 refine Zq (Zr ?_)
 refine Za ?_
 refine Zl ?_
 exact VC.ret (fin1I (.inr rfl) rfl rfl () (congrArg i64 (by first | exact stepv_a hi0 (by omega) | exact stepv_b hi0 (by omega) hj0 (by omega) | exact stepv_1 hz30 hz37 (by assumption) | exact stepv_2 hi0 hj0 hz30 hz37 (by assumption) (by assumption) | exact stepv_3 hi0 hj0 hz30 hz37 (by assumption) (by assumption))) (trivial) (fun _ _ => trivial))
end Go.Proofs.YtleokmhhloamaaaGreatDoor
end

section
namespace Go.Proofs.YtleokmhhloamaaaGreatDoor
open Go.RowKit Go.V
open Go.P hiding Str
theorem lit366 : ((Tryz.prog.info? 366).map fun i => (i.size, i.zero.isSome)) = some (2, true) := by kernel_rfl
theorem app366 : ((Tryz.prog.info? 366).map fun i => (i.size, i.bytes, (i.zero.map fun z => z.cells.size))) = some (2, 24, some 2) := by kernel_rfl
-- Lines
set_option maxRecDepth 100000 in
 theorem lines_ct (a b : Sv Str) (ha : a.l.length ≤ 256) (hb : b.l.length ≤ 256) :
 Ct Tryz.prog 283 [a.val, b.val] (a.ok.and b.ok) Ow.emp (X := Sv Edit) (fun q => .tuple #[q.val, .nilIface]) (fun q => q.l = edits a.l b.l) (fun q => q.ok) (fun _ => Ow.emp) := by
 refine Ct.of Tryz.func283 rfl (by kernel_rfl) Tryz.ntmps283 (by simp) fun c => ?_
 refine Zq (Zr ?_)
 refine Za ?_
 refine Za ?_
 refine Zl ?_
 refine Zq (Zr ?_)
 refine Zm ?_
 refine Zm ?_
 refine VL.callF (made_ct a b (by first | assumption | omega) (by first | assumption | omega)) rfl (by decide) ?_
 rintro ⟨b0, n⟩ hT
 dsimp only at hT
 dsimp only
 refine Zm ?_
 refine VL.q (q_extract rfl rfl) (by decide) ?_
 refine VL.q (q_extract rfl rfl) (by decide) ?_
 refine Za ?_
 refine Za ?_
 refine Zl ?_
 refine Zq (Zq (Zr ?_))
 refine Zm ?_
 refine VL.q (q_nilne Tryz.underlying29 rfl) (by decide) ?_
 refine Zl ?_
 refine VC.cond_f rfl ?_
 refine Zk ?_
 refine Zq (Zr ?_)
 refine Za ?_
 refine Zl ?_
 refine Zq (Zq (Zr ?_))
 refine Za ?_
 refine Za ?_
 refine Zl ?_
 refine Zb ?_
 refine VC.nilO (⟨none, 0, []⟩ : Sv Edit) 366 ⟨rfl, rfl⟩ ?_
 refine VC.loopK (S := Int × Int × Sv Edit) (fun sg => 0 ≤ sg.1 ∧ sg.1 ≤ a.l.length ∧ 0 ≤ sg.2.1 ∧ sg.2.1 ≤ b.l.length ∧ (sg.2.2.l.length : Int) ≤ sg.1 + sg.2.1 ∧ sg.2.2.l ++ edits (a.l.drop sg.1.toNat) (b.l.drop sg.2.1.toNat) = edits a.l b.l) (fun sg => [(0, a.val), (1, b.val), (4, .slice none 0 0), (5, .nilIface), (6, ptr b0 0), (7, .nilIface), (9, i64 sg.1), (10, i64 sg.2.1), (8, sg.2.2.val)]) (fun sg => Ow.star (Sv.own sg.2.2 366) (Ow.emp)) (fun sg => ((a.l.length - sg.1) + (b.l.length - sg.2.1)).toNat) (0, 0, ⟨none, 0, []⟩) [0, 1, 4, 5, 6, 7, 9, 10, 8] (by (try dsimp only); exact ⟨by omega, by omega, by omega, by omega, by simp, rfl⟩) rfl (by (try dsimp only); exact EntO.out) ?_
 rintro ⟨i, j, o⟩ hI
 show VC _ _ _ _ _ [(0, a.val), (1, b.val), (4, .slice none 0 0), (5, .nilIface), (6, ptr b0 0), (7, .nilIface), (9, i64 i), (10, i64 j), (8, o.val)] _ (Ow.star (Sv.own o 366) (Ow.emp))
 try dsimp only at hI
 obtain ⟨hi0, hi1, hj0, hj1, hol, hed⟩ := hI
 refine Zq (Zq (Zr ?_))
 refine Zm ?_
 refine Zm ?_
 refine VL.q (q_ln (s := a) Tryz.underlying82 rfl) (by decide) ?_
 refine VL.q (q_lss rfl rfl) (by decide) ?_
 refine Zm ?_
 refine VL.split_dec 26 rfl (fun h26 => ?_) (fun h26 => ?_)
 ·
  refine Zn ?_
  refine Zn ?_
  refine Zn ?_
  refine Zn ?_
  refine Zt ?_
  refine Zl ?_
  refine VC.cond_t rfl ?_
  refine Zk ?_
  refine Zb (Zq (Zr ?_))
  refine Zm ?_
  refine Zm ?_
  refine Zm ?_
  refine VL.q (q_call (step_ct b0 a b n i j (by omega) (by omega) (by omega) (by omega) ha hb hT) rfl (fun _ _ => rfl)) (by decide) ?_
  refine Za ?_
  refine Zl ?_
  refine Zq (Zr ?_)
  refine Za ?_
  refine Zl ?_
  refine Zq (Zq (Zr ?_))
  refine Zm ?_
  refine Zl ?_
  refine Zb (Zq (Zb (Zq (Zb (Zq (Zb (Zq (Zq (Zq (Zr ?_))))))))))
  refine VL.q (q_eql rfl rfl) (by decide) ?_
  refine Za ?_
  refine Zl ?_
  refine VC.cond_dec rfl (fun h37 => ?_) (fun h37 => ?_)
  ·
   obtain ⟨hia, hjb⟩ := stepv_is1 h37
   refine Zx ?_
   refine Zr ?_
   refine Zm ?_
   refine VL.q (q_add rfl rfl ⟨by omega, by omega⟩) (by decide) ?_
   refine Za ?_
   refine Zl ?_
   refine Zq (Zq (Zr ?_))
   refine Zm ?_
   refine Zm ?_
   obtain ⟨z47, hz47⟩ : ∃ z, a.l[(i).toNat]? = some z := ⟨_, List.getElem?_eq_getElem (by omega)⟩
   refine VL.q (q_ixm (s := a) Tryz.underlying82 sz9 rfl rfl (by omega) (by omega)) (by decide) ?_
   refine VL.q (q_el (s := a) one9 rfl hz47 rfl) (by decide) ?_
   refine Za ?_
   refine Zl ?_
   refine Zr ?_
   refine Zm ?_
   refine VL.q (q_add rfl rfl ⟨by omega, by omega⟩) (by decide) ?_
   refine Za ?_
   refine Zl ?_
   refine Zx ?_
   refine Zr ?_
   refine Zm ?_
   refine Zm ?_
   refine Zm ?_
   refine VL.q (q_build (vs := [(0, i64 (stepv (a.l.drop i.toNat) (b.l.drop j.toNat))), (1, str z47)]) (cs := #[i64 (stepv (a.l.drop i.toNat) (b.l.drop j.toNat)), str z47]) rfl (by kernel_rfl)) (by decide) ?_
   refine VL.lit (α := Edit) (xs := [.tmp 60]) (vs := [.agg #[i64 (stepv (a.l.drop i.toNat) (b.l.drop j.toNat)), str z47]]) [⟨(stepv (a.l.drop i.toNat) (b.l.drop j.toNat)), z47⟩] Tryz.underlying363 lit366 (by decide) rfl rfl rfl rfl (by decide) (fun _ _ _ _ => trivial) (by decide) (fun s61 hs61 => ?_) (by decide)
   refine VL.app (s := o) (r := s61) Tryz.underlying363 app366 (by decide) rfl Fo.out (by rw [hs61]; simp; omega) (by rw [hs61]; simp; omega) (by decide) (fun s62 hs62 => ?_)
   refine Za ?_
   refine VL.anyI ((i + 1), (j + 1), s62) [0, 1, 4, 5, 6, 7, 9, 10, 8] (fun _ _ h => h) ?_ rfl (by (try dsimp only); exact EntO.out)
   try dsimp only
   have hlen : s62.l.length = o.l.length + 1 := by rw [hs62, hs61]; simp
   first
     | exact ⟨⟨by omega, by omega, by omega, by omega, by omega, round_1 hi0 hj0 (by assumption) hz47 hed hs62 hs61⟩, by omega⟩
     | exact ⟨⟨by omega, by omega, by omega, by omega, by omega, round_2 hi0 (by assumption) hz47 hed hs62 hs61⟩, by omega⟩
     | exact ⟨⟨by omega, by omega, by omega, by omega, by omega, round_3 hj0 (by assumption) hz53 hed hs62 hs61⟩, by omega⟩
  refine Zk ?_
  refine Zq (Zq (Zr ?_))
  refine VL.q (q_eql rfl rfl) (by decide) ?_
  refine Za ?_
  refine Zl ?_
  refine VC.cond_dec rfl (fun h39 => ?_) (fun h39 => ?_)
  ·
   have hia := stepv_is2 h39
   refine Zx ?_
   refine Zq (Zq (Zr ?_))
   refine Zm ?_
   refine Zm ?_
   obtain ⟨z47, hz47⟩ : ∃ z, a.l[(i).toNat]? = some z := ⟨_, List.getElem?_eq_getElem (by omega)⟩
   refine VL.q (q_ixm (s := a) Tryz.underlying82 sz9 rfl rfl (by omega) (by omega)) (by decide) ?_
   refine VL.q (q_el (s := a) one9 rfl hz47 rfl) (by decide) ?_
   refine Za ?_
   refine Zl ?_
   refine Zr ?_
   refine Zm ?_
   refine VL.q (q_add rfl rfl ⟨by omega, by omega⟩) (by decide) ?_
   refine Za ?_
   refine Zl ?_
   refine Zx ?_
   refine Zr ?_
   refine Zm ?_
   refine Zm ?_
   refine Zm ?_
   refine VL.q (q_build (vs := [(0, i64 (stepv (a.l.drop i.toNat) (b.l.drop j.toNat))), (1, str z47)]) (cs := #[i64 (stepv (a.l.drop i.toNat) (b.l.drop j.toNat)), str z47]) rfl (by kernel_rfl)) (by decide) ?_
   refine VL.lit (α := Edit) (xs := [.tmp 60]) (vs := [.agg #[i64 (stepv (a.l.drop i.toNat) (b.l.drop j.toNat)), str z47]]) [⟨(stepv (a.l.drop i.toNat) (b.l.drop j.toNat)), z47⟩] Tryz.underlying363 lit366 (by decide) rfl rfl rfl rfl (by decide) (fun _ _ _ _ => trivial) (by decide) (fun s61 hs61 => ?_) (by decide)
   refine VL.app (s := o) (r := s61) Tryz.underlying363 app366 (by decide) rfl Fo.out (by rw [hs61]; simp; omega) (by rw [hs61]; simp; omega) (by decide) (fun s62 hs62 => ?_)
   refine Za ?_
   refine VL.anyI ((i + 1), j, s62) [0, 1, 4, 5, 6, 7, 9, 10, 8] (fun _ _ h => h) ?_ rfl (by (try dsimp only); exact EntO.out)
   try dsimp only
   have hlen : s62.l.length = o.l.length + 1 := by rw [hs62, hs61]; simp
   first
     | exact ⟨⟨by omega, by omega, by omega, by omega, by omega, round_1 hi0 hj0 (by assumption) hz47 hed hs62 hs61⟩, by omega⟩
     | exact ⟨⟨by omega, by omega, by omega, by omega, by omega, round_2 hi0 (by assumption) hz47 hed hs62 hs61⟩, by omega⟩
     | exact ⟨⟨by omega, by omega, by omega, by omega, by omega, round_3 hj0 (by assumption) hz53 hed hs62 hs61⟩, by omega⟩
  refine Zk ?_
  refine Zq (Zr ?_)
  refine VL.q (q_eql rfl rfl) (by decide) ?_
  refine Za ?_
  refine Zl ?_
  refine VC.cond_dec rfl (fun h41 => ?_) (fun h41 => ?_)
  ·
   have hjb := stepv_is3 hi0 hj0 h41 (by first | exact .inl (by assumption) | exact .inr (by assumption))
   refine Zx ?_
   refine Zq (Zq (Zr ?_))
   refine Zm ?_
   refine Zm ?_
   obtain ⟨z53, hz53⟩ : ∃ z, b.l[(j).toNat]? = some z := ⟨_, List.getElem?_eq_getElem (by omega)⟩
   refine VL.q (q_ixm (s := b) Tryz.underlying82 sz9 rfl rfl (by omega) (by omega)) (by decide) ?_
   refine VL.q (q_el (s := b) one9 rfl hz53 rfl) (by decide) ?_
   refine Za ?_
   refine Zl ?_
   refine Zr ?_
   refine Zm ?_
   refine VL.q (q_add rfl rfl ⟨by omega, by omega⟩) (by decide) ?_
   refine Za ?_
   refine Zl ?_
   refine Zx ?_
   refine Zr ?_
   refine Zm ?_
   refine Zm ?_
   refine Zm ?_
   refine VL.q (q_build (vs := [(0, i64 (stepv (a.l.drop i.toNat) (b.l.drop j.toNat))), (1, str z53)]) (cs := #[i64 (stepv (a.l.drop i.toNat) (b.l.drop j.toNat)), str z53]) rfl (by kernel_rfl)) (by decide) ?_
   refine VL.lit (α := Edit) (xs := [.tmp 60]) (vs := [.agg #[i64 (stepv (a.l.drop i.toNat) (b.l.drop j.toNat)), str z53]]) [⟨(stepv (a.l.drop i.toNat) (b.l.drop j.toNat)), z53⟩] Tryz.underlying363 lit366 (by decide) rfl rfl rfl rfl (by decide) (fun _ _ _ _ => trivial) (by decide) (fun s61 hs61 => ?_) (by decide)
   refine VL.app (s := o) (r := s61) Tryz.underlying363 app366 (by decide) rfl Fo.out (by rw [hs61]; simp; omega) (by rw [hs61]; simp; omega) (by decide) (fun s62 hs62 => ?_)
   refine Za ?_
   refine VL.anyI (i, (j + 1), s62) [0, 1, 4, 5, 6, 7, 9, 10, 8] (fun _ _ h => h) ?_ rfl (by (try dsimp only); exact EntO.out)
   try dsimp only
   have hlen : s62.l.length = o.l.length + 1 := by rw [hs62, hs61]; simp
   first
     | exact ⟨⟨by omega, by omega, by omega, by omega, by omega, round_1 hi0 hj0 (by assumption) hz47 hed hs62 hs61⟩, by omega⟩
     | exact ⟨⟨by omega, by omega, by omega, by omega, by omega, round_2 hi0 (by assumption) hz47 hed hs62 hs61⟩, by omega⟩
     | exact ⟨⟨by omega, by omega, by omega, by omega, by omega, round_3 hj0 (by assumption) hz53 hed hs62 hs61⟩, by omega⟩
  rcases stepv_cases (a.l.drop i.toNat) (b.l.drop j.toNat) with h | h | h <;> contradiction
 refine Zg ?_
 refine Zg ?_
 refine VL.gy rfl rfl (q_ln (s := b) Tryz.underlying82 rfl) (by decide) ?_
 refine VL.gy rfl rfl (q_lss rfl rfl) (by decide) ?_
 refine Zf ?_
 refine Zl ?_
 refine VC.cond_dec rfl (fun h31 => ?_) (fun h31 => ?_)
 ·
  refine Zk ?_
  refine Zb (Zq (Zr ?_))
  refine Zm ?_
  refine Zm ?_
  refine Zm ?_
  refine VL.q (q_call (step_ct b0 a b n i j (by omega) (by omega) (by omega) (by omega) ha hb hT) rfl (fun _ _ => rfl)) (by decide) ?_
  refine Za ?_
  refine Zl ?_
  refine Zq (Zr ?_)
  refine Za ?_
  refine Zl ?_
  refine Zq (Zq (Zr ?_))
  refine Zm ?_
  refine Zl ?_
  refine Zb (Zq (Zb (Zq (Zb (Zq (Zb (Zq (Zq (Zq (Zr ?_))))))))))
  refine VL.q (q_eql rfl rfl) (by decide) ?_
  refine Za ?_
  refine Zl ?_
  refine VC.cond_dec rfl (fun h37 => ?_) (fun h37 => ?_)
  ·
   obtain ⟨hia, hjb⟩ := stepv_is1 h37
   refine Zx ?_
   refine Zr ?_
   refine Zm ?_
   refine VL.q (q_add rfl rfl ⟨by omega, by omega⟩) (by decide) ?_
   refine Za ?_
   refine Zl ?_
   refine Zq (Zq (Zr ?_))
   refine Zm ?_
   refine Zm ?_
   obtain ⟨z47, hz47⟩ : ∃ z, a.l[(i).toNat]? = some z := ⟨_, List.getElem?_eq_getElem (by omega)⟩
   refine VL.q (q_ixm (s := a) Tryz.underlying82 sz9 rfl rfl (by omega) (by omega)) (by decide) ?_
   refine VL.q (q_el (s := a) one9 rfl hz47 rfl) (by decide) ?_
   refine Za ?_
   refine Zl ?_
   refine Zr ?_
   refine Zm ?_
   refine VL.q (q_add rfl rfl ⟨by omega, by omega⟩) (by decide) ?_
   refine Za ?_
   refine Zl ?_
   refine Zx ?_
   refine Zr ?_
   refine Zm ?_
   refine Zm ?_
   refine Zm ?_
   refine VL.q (q_build (vs := [(0, i64 (stepv (a.l.drop i.toNat) (b.l.drop j.toNat))), (1, str z47)]) (cs := #[i64 (stepv (a.l.drop i.toNat) (b.l.drop j.toNat)), str z47]) rfl (by kernel_rfl)) (by decide) ?_
   refine VL.lit (α := Edit) (xs := [.tmp 60]) (vs := [.agg #[i64 (stepv (a.l.drop i.toNat) (b.l.drop j.toNat)), str z47]]) [⟨(stepv (a.l.drop i.toNat) (b.l.drop j.toNat)), z47⟩] Tryz.underlying363 lit366 (by decide) rfl rfl rfl rfl (by decide) (fun _ _ _ _ => trivial) (by decide) (fun s61 hs61 => ?_) (by decide)
   refine VL.app (s := o) (r := s61) Tryz.underlying363 app366 (by decide) rfl Fo.out (by rw [hs61]; simp; omega) (by rw [hs61]; simp; omega) (by decide) (fun s62 hs62 => ?_)
   refine Za ?_
   refine VL.anyI ((i + 1), (j + 1), s62) [0, 1, 4, 5, 6, 7, 9, 10, 8] (fun _ _ h => h) ?_ rfl (by (try dsimp only); exact EntO.out)
   try dsimp only
   have hlen : s62.l.length = o.l.length + 1 := by rw [hs62, hs61]; simp
   first
     | exact ⟨⟨by omega, by omega, by omega, by omega, by omega, round_1 hi0 hj0 (by assumption) hz47 hed hs62 hs61⟩, by omega⟩
     | exact ⟨⟨by omega, by omega, by omega, by omega, by omega, round_2 hi0 (by assumption) hz47 hed hs62 hs61⟩, by omega⟩
     | exact ⟨⟨by omega, by omega, by omega, by omega, by omega, round_3 hj0 (by assumption) hz53 hed hs62 hs61⟩, by omega⟩
  refine Zk ?_
  refine Zq (Zq (Zr ?_))
  refine VL.q (q_eql rfl rfl) (by decide) ?_
  refine Za ?_
  refine Zl ?_
  refine VC.cond_dec rfl (fun h39 => ?_) (fun h39 => ?_)
  ·
   have hia := stepv_is2 h39
   refine Zx ?_
   refine Zq (Zq (Zr ?_))
   refine Zm ?_
   refine Zm ?_
   obtain ⟨z47, hz47⟩ : ∃ z, a.l[(i).toNat]? = some z := ⟨_, List.getElem?_eq_getElem (by omega)⟩
   refine VL.q (q_ixm (s := a) Tryz.underlying82 sz9 rfl rfl (by omega) (by omega)) (by decide) ?_
   refine VL.q (q_el (s := a) one9 rfl hz47 rfl) (by decide) ?_
   refine Za ?_
   refine Zl ?_
   refine Zr ?_
   refine Zm ?_
   refine VL.q (q_add rfl rfl ⟨by omega, by omega⟩) (by decide) ?_
   refine Za ?_
   refine Zl ?_
   refine Zx ?_
   refine Zr ?_
   refine Zm ?_
   refine Zm ?_
   refine Zm ?_
   refine VL.q (q_build (vs := [(0, i64 (stepv (a.l.drop i.toNat) (b.l.drop j.toNat))), (1, str z47)]) (cs := #[i64 (stepv (a.l.drop i.toNat) (b.l.drop j.toNat)), str z47]) rfl (by kernel_rfl)) (by decide) ?_
   refine VL.lit (α := Edit) (xs := [.tmp 60]) (vs := [.agg #[i64 (stepv (a.l.drop i.toNat) (b.l.drop j.toNat)), str z47]]) [⟨(stepv (a.l.drop i.toNat) (b.l.drop j.toNat)), z47⟩] Tryz.underlying363 lit366 (by decide) rfl rfl rfl rfl (by decide) (fun _ _ _ _ => trivial) (by decide) (fun s61 hs61 => ?_) (by decide)
   refine VL.app (s := o) (r := s61) Tryz.underlying363 app366 (by decide) rfl Fo.out (by rw [hs61]; simp; omega) (by rw [hs61]; simp; omega) (by decide) (fun s62 hs62 => ?_)
   refine Za ?_
   refine VL.anyI ((i + 1), j, s62) [0, 1, 4, 5, 6, 7, 9, 10, 8] (fun _ _ h => h) ?_ rfl (by (try dsimp only); exact EntO.out)
   try dsimp only
   have hlen : s62.l.length = o.l.length + 1 := by rw [hs62, hs61]; simp
   first
     | exact ⟨⟨by omega, by omega, by omega, by omega, by omega, round_1 hi0 hj0 (by assumption) hz47 hed hs62 hs61⟩, by omega⟩
     | exact ⟨⟨by omega, by omega, by omega, by omega, by omega, round_2 hi0 (by assumption) hz47 hed hs62 hs61⟩, by omega⟩
     | exact ⟨⟨by omega, by omega, by omega, by omega, by omega, round_3 hj0 (by assumption) hz53 hed hs62 hs61⟩, by omega⟩
  refine Zk ?_
  refine Zq (Zr ?_)
  refine VL.q (q_eql rfl rfl) (by decide) ?_
  refine Za ?_
  refine Zl ?_
  refine VC.cond_dec rfl (fun h41 => ?_) (fun h41 => ?_)
  ·
   have hjb := stepv_is3 hi0 hj0 h41 (by first | exact .inl (by assumption) | exact .inr (by assumption))
   refine Zx ?_
   refine Zq (Zq (Zr ?_))
   refine Zm ?_
   refine Zm ?_
   obtain ⟨z53, hz53⟩ : ∃ z, b.l[(j).toNat]? = some z := ⟨_, List.getElem?_eq_getElem (by omega)⟩
   refine VL.q (q_ixm (s := b) Tryz.underlying82 sz9 rfl rfl (by omega) (by omega)) (by decide) ?_
   refine VL.q (q_el (s := b) one9 rfl hz53 rfl) (by decide) ?_
   refine Za ?_
   refine Zl ?_
   refine Zr ?_
   refine Zm ?_
   refine VL.q (q_add rfl rfl ⟨by omega, by omega⟩) (by decide) ?_
   refine Za ?_
   refine Zl ?_
   refine Zx ?_
   refine Zr ?_
   refine Zm ?_
   refine Zm ?_
   refine Zm ?_
   refine VL.q (q_build (vs := [(0, i64 (stepv (a.l.drop i.toNat) (b.l.drop j.toNat))), (1, str z53)]) (cs := #[i64 (stepv (a.l.drop i.toNat) (b.l.drop j.toNat)), str z53]) rfl (by kernel_rfl)) (by decide) ?_
   refine VL.lit (α := Edit) (xs := [.tmp 60]) (vs := [.agg #[i64 (stepv (a.l.drop i.toNat) (b.l.drop j.toNat)), str z53]]) [⟨(stepv (a.l.drop i.toNat) (b.l.drop j.toNat)), z53⟩] Tryz.underlying363 lit366 (by decide) rfl rfl rfl rfl (by decide) (fun _ _ _ _ => trivial) (by decide) (fun s61 hs61 => ?_) (by decide)
   refine VL.app (s := o) (r := s61) Tryz.underlying363 app366 (by decide) rfl Fo.out (by rw [hs61]; simp; omega) (by rw [hs61]; simp; omega) (by decide) (fun s62 hs62 => ?_)
   refine Za ?_
   refine VL.anyI (i, (j + 1), s62) [0, 1, 4, 5, 6, 7, 9, 10, 8] (fun _ _ h => h) ?_ rfl (by (try dsimp only); exact EntO.out)
   try dsimp only
   have hlen : s62.l.length = o.l.length + 1 := by rw [hs62, hs61]; simp
   first
     | exact ⟨⟨by omega, by omega, by omega, by omega, by omega, round_1 hi0 hj0 (by assumption) hz47 hed hs62 hs61⟩, by omega⟩
     | exact ⟨⟨by omega, by omega, by omega, by omega, by omega, round_2 hi0 (by assumption) hz47 hed hs62 hs61⟩, by omega⟩
     | exact ⟨⟨by omega, by omega, by omega, by omega, by omega, round_3 hj0 (by assumption) hz53 hed hs62 hs61⟩, by omega⟩
  rcases stepv_cases (a.l.drop i.toNat) (b.l.drop j.toNat) with h | h | h <;> contradiction
 refine Zx ?_
 refine Zq ?_
 refine VC.shut o 366 (fun _ _ _ _ => trivial) ?_
 refine Zr ?_
 refine Zm ?_
 refine VL.callF (clipE_ct o) rfl (by decide) ?_
 rintro s64 hs64
 refine Za ?_
 refine Za ?_
 refine Zl ?_
 exact VC.ret (fin2I (.inr rfl) rfl rfl rfl s64 rfl ((edits_end (by assumption) (by assumption) hed hs64)) (fun _ _ => trivial))
end Go.Proofs.YtleokmhhloamaaaGreatDoor
end

section
namespace Go.Proofs.YtleokmhhloamaaaGreatDoor
open Go.RowKit Go.V
open Go.P hiding Str
theorem agg366 : AggOf Tryz.prog 366 2 := aggOf_of Tryz.underlying366 rfl (by kernel_rfl)
theorem fa366_0 : FieldAt Tryz.prog 366 0 0 := fieldAt_sz (n := 0) (f := ⟨_, _, 0, _, _, _, _⟩) Tryz.underlying366 rfl (by kernel_rfl)
theorem lit342 : ((Tryz.prog.info? 342).map fun i => (i.size, i.zero.isSome)) = some (3, true) := by kernel_rfl
theorem app342 : ((Tryz.prog.info? 342).map fun i => (i.size, i.bytes, (i.zero.map fun z => z.cells.size))) = some (3, 24, some 3) := by kernel_rfl
theorem fa342_2 : FieldAt Tryz.prog 342 2 2 := fieldAt_sz (n := 0) (f := ⟨_, _, 2, _, _, _, _⟩) Tryz.underlying342 rfl (by kernel_rfl)
set_option maxRecDepth 100000 in
 theorem matches_ct (a b : Sv Str) (ha : a.l.length ≤ 256) (hb : b.l.length ≤ 256) :
 Ct Tryz.prog 261 [a.val, b.val] (a.ok.and b.ok) Ow.emp (X := Sv Mat) (fun q => .tuple #[q.val, .nilIface]) (fun q => q.l = mats (edits a.l b.l)) (fun q => q.ok) (fun _ => Ow.emp) := by
 refine Ct.of Tryz.func261 rfl (by kernel_rfl) Tryz.ntmps261 (by simp) fun c => ?_
 refine Zq (Zr ?_)
 refine Za ?_
 refine Za ?_
 refine Zl ?_
 refine Zq (Zr ?_)
 refine Zm ?_
 refine Zm ?_
 refine VL.callF (lines_ct a b ha hb) rfl (by decide) ?_
 rintro l hl
 refine Zm ?_
 refine VL.q (q_extract rfl rfl) (by decide) ?_
 refine VL.q (q_extract rfl rfl) (by decide) ?_
 refine Za ?_
 refine Za ?_
 refine Zl ?_
 refine Zq (Zq (Zr ?_))
 refine Zm ?_
 refine VL.q (q_nilne Tryz.underlying29 rfl) (by decide) ?_
 refine Zl ?_
 refine VC.cond_f rfl ?_
 refine Zk ?_
 refine Zq (Zr ?_)
 refine Za ?_
 refine Zl ?_
 refine Zq (Zr ?_)
 refine Za ?_
 refine Za ?_
 refine Za ?_
 refine Zl ?_
 refine Zq (Zq ?_)
 have hll := edits_len a.l b.l
 rw [← hl] at hll
 refine Zr ?_
 refine Zm ?_
 refine VL.q (q_ln (s := l) Tryz.underlying363 rfl) (by decide) ?_
 refine Zm ?_
 refine Zl ?_
 refine Zb ?_
 refine VC.nilO (⟨none, 0, []⟩ : Sv Mat) 342 ⟨rfl, rfl⟩ ?_
 refine VC.loopK (S := Int × Int × Int × Bool × Sv Mat) (fun sg => MInv l.l sg.1 sg.2.1 sg.2.2.1 sg.2.2.2.1 sg.2.2.2.2.l) (fun sg => [(0, a.val), (1, b.val), (4, .slice none 0 0), (5, .nilIface), (6, l.val), (7, .nilIface), (23, l.val), (24, i64 (l.l.length : Int)), (25, i64 sg.1), (9, i64 sg.2.1), (10, i64 sg.2.2.1), (11, .bool sg.2.2.2.1), (8, sg.2.2.2.2.val)]) (fun sg => Ow.star (Sv.own sg.2.2.2.2 342) (Ow.emp)) (fun sg => (l.l.length - sg.1).toNat) (0, 0, 0, false, ⟨none, 0, []⟩) [0, 1, 4, 5, 6, 7, 23, 24, 25, 9, 10, 11, 8] (by (try dsimp only); exact ⟨rfl, (fun h => by cases h), by omega, by omega, by omega, by omega, by omega, by omega, by simp, (fun _ h => by cases h)⟩) rfl (by (try dsimp only); exact EntO.out) ?_
 rintro ⟨k, i, j, row, o⟩ hI
 show VC _ _ _ _ _ [(0, a.val), (1, b.val), (4, .slice none 0 0), (5, .nilIface), (6, l.val), (7, .nilIface), (23, l.val), (24, i64 (l.l.length : Int)), (25, i64 k), (9, i64 i), (10, i64 j), (11, .bool row), (8, o.val)] _ (Ow.star (Sv.own o 342) (Ow.emp))
 try dsimp only at hI
 have k0 := hI.k0
 have k1 := hI.k1
 have i0 := hI.i0
 have i1 := hI.i1
 have j0 := hI.j0
 have j1 := hI.j1
 have ho := hI.len
 refine Zq (Zr ?_)
 refine VL.q (q_lss rfl rfl) (by decide) ?_
 refine Zl ?_
 refine Zq ?_
 refine VC.cond_dec rfl (fun h26 => ?_) (fun h26 => ?_)
 ·
  refine Zk ?_
  refine Zq (Zb (Zq (Zr ?_)))
  obtain ⟨z27, hz27⟩ : ∃ z, l.l[(k).toNat]? = some z := ⟨_, List.getElem?_eq_getElem (by omega)⟩
  refine VL.q (q_ixm (s := l) Tryz.underlying363 sz366 rfl rfl (by omega) (by omega)) (by decide) ?_
  refine VL.q (q_els (s := l) agg366 rfl rfl hz27) (by decide) ?_
  refine VL.alloc (cs := [i64 0, str []]) (by kernel_rfl) (by decide) fun b13 => ?_
  refine VL.store (vc := [i64 z27.op, str z27.line]) (cs' := [i64 z27.op, str z27.line]) rfl rfl rfl sz366 rfl rfl (Nat.le_of_ble_eq_true rfl) rfl ?_
  refine Zl ?_
  refine Zq (Zq (Zr ?_))
  refine VL.q (q_field fa366_0 rfl) (by decide) ?_
  refine VL.q (q_fe one3 rfl rfl) (by decide) ?_
  refine VL.q (q_eql rfl rfl) (by decide) ?_
  refine Zl ?_
  refine VC.cond_dec rfl (fun h31 => ?_) (fun h31 => ?_)
  ·
   refine Zq (Zq (Zr ?_))
   refine Zm ?_
   refine VL.q (q_not rfl) (by decide) ?_
   refine Zl ?_
   refine VC.cond rfl (fun h33 => ?_) (fun h33 => ?_)
   ·
    refine Zr ?_
    refine Zm ?_
    refine Zm ?_
    refine Zm ?_
    refine VL.q (q_build (vs := [(0, i64 i), (1, i64 j)]) (cs := #[i64 i, i64 j, i64 0]) rfl (by kernel_rfl)) (by decide) ?_
    refine VL.lit (α := Mat) (xs := [.tmp 37]) (vs := [.agg #[i64 i, i64 j, i64 0]]) [⟨i, j, 0⟩] Tryz.underlying337 lit342 (by decide) rfl rfl rfl rfl (by decide) (fun _ _ _ _ => trivial) (by decide) (fun s38 hs38 => ?_) (by decide)
    refine VL.app (s := o) (r := s38) Tryz.underlying337 app342 (by decide) rfl Fo.out (by rw [hs38]; simp; omega) (by rw [hs38]; simp; omega) (by decide) (fun s39 hs39 => ?_)
    have hs39' : s39.l = o.l ++ [⟨i, j, 0⟩] := by rw [hs39, hs38]
    have hlen39 : s39.l.length = o.l.length + 1 := by rw [hs39']; simp
    refine Za ?_
    refine Zl ?_
    skip
    refine Zr ?_
    refine Zm ?_
    refine Zm ?_
    refine VL.q (q_ln (s := s39) Tryz.underlying337 rfl) (by decide) ?_
    refine VL.q (q_sub rfl rfl ⟨by omega, by omega⟩) (by decide) ?_
    obtain ⟨z44, hz44⟩ : ∃ z, s39.l[(((s39.l.length : Int) - 1)).toNat]? = some z := ⟨_, List.getElem?_eq_getElem (by omega)⟩
    refine VL.q (q_ixo (s := s39) Tryz.underlying337 sz342 rfl rfl (by omega) (by omega)) (by decide) ?_
    refine VL.q (q_field fa342_2 rfl) (by decide) ?_
    have hbd := (hI.bd.snoc hI.i0 hI.j0) z44 (List.mem_of_getElem? (by rw [← hs39']; exact hz44))
    refine VL.q (q_elfo (s := s39) one3 rfl hz44 rfl) (by decide) ?_
    refine VL.q (q_add rfl rfl ⟨by omega, by omega⟩) (by decide) ?_
    refine VL.q (q_ixo (s := s39) Tryz.underlying337 sz342 rfl rfl (by omega) (by omega)) (by decide) ?_
    refine VL.q (q_field fa342_2 rfl) (by decide) ?_
    refine VL.storeE (s := s39) (T := 342) (j := 2) (vc := [i64 (z44.n + 1)]) (⟨z44.a, z44.b, (z44.n + 1)⟩ : Mat) (by decide) rfl rfl hz44 rfl sz3 rfl rfl (Nat.le_of_ble_eq_true rfl) rfl (fun w0 hw0 haw0 hcw0 hvw0 hbw0 how0 => ?_)
    rw [← hvw0]
    refine Zl ?_
    refine Zq (Zr ?_)
    refine VL.q (q_field fa366_0 rfl) (by decide) ?_
    refine VL.q (q_fe one3 rfl rfl) (by decide) ?_
    refine VL.q (q_eql rfl rfl) (by decide) ?_
    refine Za ?_
    refine Zl ?_
    refine Zq (Zq (Zr ?_))
    refine VL.q (q_field fa366_0 rfl) (by decide) ?_
    refine VL.q (q_fe one3 rfl rfl) (by decide) ?_
    refine VL.q (q_neq rfl rfl) (by decide) ?_
    refine Zl ?_
    refine VC.cond_ndec rfl (fun h55 => ?_) (fun h55 => ?_)
    ·
     refine Zr ?_
     refine Zm ?_
     refine VL.q (q_add rfl rfl ⟨by omega, by omega⟩) (by decide) ?_
     refine Za ?_
     refine Zl ?_
     refine Zq (Zr ?_)
     refine VL.q (q_field fa366_0 rfl) (by decide) ?_
     refine VL.q (q_fe one3 rfl rfl) (by decide) ?_
     refine VL.q (q_neq rfl rfl) (by decide) ?_
     refine Zl ?_
     refine VC.cond_ndec rfl (fun h60 => ?_) (fun h60 => ?_)
     ·
      refine Zr ?_
      refine Zm ?_
      refine VL.q (q_add rfl rfl ⟨by omega, by omega⟩) (by decide) ?_
      refine Za ?_
      refine Zl ?_
      refine Zr ?_
      refine VL.q (q_add rfl rfl ⟨by omega, by omega⟩) (by decide) ?_
      refine Zm ?_
      refine VL.anyI ((k + 1), (i + 1), (j + 1), decide (z27.op = 1), w0) [0, 1, 4, 5, 6, 7, 23, 24, 25, 9, 10, 11, 8] (fun _ _ h => h) ?_ rfl (by (try dsimp only); exact EntO.out)
      try dsimp only
      exact ⟨minv_step hI hz27 (by rw [if_pos h31, if_neg (by simpa using h33)]; rw [← hs39']; exact bump_set rfl hz44 hw0) (by first | (exfalso; omega) | rw [if_pos (by omega)] | rw [if_neg (by omega)]) (by first | (exfalso; omega) | rw [if_pos (by omega)] | rw [if_neg (by omega)]) rfl, by omega⟩
     refine Zk ?_
     refine Zr ?_
     refine VL.q (q_add rfl rfl ⟨by omega, by omega⟩) (by decide) ?_
     refine Zm ?_
     refine VL.anyI ((k + 1), (i + 1), j, decide (z27.op = 1), w0) [0, 1, 4, 5, 6, 7, 23, 24, 25, 9, 10, 11, 8] (fun _ _ h => h) ?_ rfl (by (try dsimp only); exact EntO.out)
     try dsimp only
     exact ⟨minv_step hI hz27 (by rw [if_pos h31, if_neg (by simpa using h33)]; rw [← hs39']; exact bump_set rfl hz44 hw0) (by first | (exfalso; omega) | rw [if_pos (by omega)] | rw [if_neg (by omega)]) (by first | (exfalso; omega) | rw [if_pos (by omega)] | rw [if_neg (by omega)]) rfl, by omega⟩
    refine Zk ?_
    refine Zq (Zr ?_)
    refine VL.q (q_field fa366_0 rfl) (by decide) ?_
    refine VL.q (q_fe one3 rfl rfl) (by decide) ?_
    refine VL.q (q_neq rfl rfl) (by decide) ?_
    refine Zl ?_
    refine VC.cond_ndec rfl (fun h60 => ?_) (fun h60 => ?_)
    ·
     refine Zr ?_
     refine Zm ?_
     refine VL.q (q_add rfl rfl ⟨by omega, by omega⟩) (by decide) ?_
     refine Za ?_
     refine Zl ?_
     refine Zr ?_
     refine VL.q (q_add rfl rfl ⟨by omega, by omega⟩) (by decide) ?_
     refine Zm ?_
     refine VL.anyI ((k + 1), i, (j + 1), decide (z27.op = 1), w0) [0, 1, 4, 5, 6, 7, 23, 24, 25, 9, 10, 11, 8] (fun _ _ h => h) ?_ rfl (by (try dsimp only); exact EntO.out)
     try dsimp only
     exact ⟨minv_step hI hz27 (by rw [if_pos h31, if_neg (by simpa using h33)]; rw [← hs39']; exact bump_set rfl hz44 hw0) (by first | (exfalso; omega) | rw [if_pos (by omega)] | rw [if_neg (by omega)]) (by first | (exfalso; omega) | rw [if_pos (by omega)] | rw [if_neg (by omega)]) rfl, by omega⟩
    refine Zk ?_
    refine Zr ?_
    refine VL.q (q_add rfl rfl ⟨by omega, by omega⟩) (by decide) ?_
    refine Zm ?_
    refine VL.anyI ((k + 1), i, j, decide (z27.op = 1), w0) [0, 1, 4, 5, 6, 7, 23, 24, 25, 9, 10, 11, 8] (fun _ _ h => h) ?_ rfl (by (try dsimp only); exact EntO.out)
    try dsimp only
    exact ⟨minv_step hI hz27 (by rw [if_pos h31, if_neg (by simpa using h33)]; rw [← hs39']; exact bump_set rfl hz44 hw0) (by first | (exfalso; omega) | rw [if_pos (by omega)] | rw [if_neg (by omega)]) (by first | (exfalso; omega) | rw [if_pos (by omega)] | rw [if_neg (by omega)]) rfl, by omega⟩
   refine Zk ?_
   have hon := hI.row (by simpa using h33)
   have hol : 0 < o.l.length := List.length_pos_iff.2 hon
   refine Zr ?_
   refine Zm ?_
   refine Zm ?_
   refine VL.q (q_ln (s := o) Tryz.underlying337 rfl) (by decide) ?_
   refine VL.q (q_sub rfl rfl ⟨by omega, by omega⟩) (by decide) ?_
   obtain ⟨z44, hz44⟩ : ∃ z, o.l[(((o.l.length : Int) - 1)).toNat]? = some z := ⟨_, List.getElem?_eq_getElem (by omega)⟩
   refine VL.q (q_ixo (s := o) Tryz.underlying337 sz342 rfl rfl (by omega) (by omega)) (by decide) ?_
   refine VL.q (q_field fa342_2 rfl) (by decide) ?_
   have hbd := hI.bd z44 (List.mem_of_getElem? hz44)
   refine VL.q (q_elfo (s := o) one3 rfl hz44 rfl) (by decide) ?_
   refine VL.q (q_add rfl rfl ⟨by omega, by omega⟩) (by decide) ?_
   refine VL.q (q_ixo (s := o) Tryz.underlying337 sz342 rfl rfl (by omega) (by omega)) (by decide) ?_
   refine VL.q (q_field fa342_2 rfl) (by decide) ?_
   refine VL.storeE (s := o) (T := 342) (j := 2) (vc := [i64 (z44.n + 1)]) (⟨z44.a, z44.b, (z44.n + 1)⟩ : Mat) (by decide) rfl rfl hz44 rfl sz3 rfl rfl (Nat.le_of_ble_eq_true rfl) rfl (fun w1 hw1 haw1 hcw1 hvw1 hbw1 how1 => ?_)
   rw [← hvw1]
   refine Zl ?_
   refine Zq (Zr ?_)
   refine VL.q (q_field fa366_0 rfl) (by decide) ?_
   refine VL.q (q_fe one3 rfl rfl) (by decide) ?_
   refine VL.q (q_eql rfl rfl) (by decide) ?_
   refine Za ?_
   refine Zl ?_
   refine Zq (Zq (Zr ?_))
   refine VL.q (q_field fa366_0 rfl) (by decide) ?_
   refine VL.q (q_fe one3 rfl rfl) (by decide) ?_
   refine VL.q (q_neq rfl rfl) (by decide) ?_
   refine Zl ?_
   refine VC.cond_ndec rfl (fun h55 => ?_) (fun h55 => ?_)
   ·
    refine Zr ?_
    refine Zm ?_
    refine VL.q (q_add rfl rfl ⟨by omega, by omega⟩) (by decide) ?_
    refine Za ?_
    refine Zl ?_
    refine Zq (Zr ?_)
    refine VL.q (q_field fa366_0 rfl) (by decide) ?_
    refine VL.q (q_fe one3 rfl rfl) (by decide) ?_
    refine VL.q (q_neq rfl rfl) (by decide) ?_
    refine Zl ?_
    refine VC.cond_ndec rfl (fun h60 => ?_) (fun h60 => ?_)
    ·
     refine Zr ?_
     refine Zm ?_
     refine VL.q (q_add rfl rfl ⟨by omega, by omega⟩) (by decide) ?_
     refine Za ?_
     refine Zl ?_
     refine Zr ?_
     refine VL.q (q_add rfl rfl ⟨by omega, by omega⟩) (by decide) ?_
     refine Zm ?_
     refine VL.anyI ((k + 1), (i + 1), (j + 1), decide (z27.op = 1), w1) [0, 1, 4, 5, 6, 7, 23, 24, 25, 9, 10, 11, 8] (fun _ _ h => h) ?_ rfl (by (try dsimp only); exact EntO.out)
     try dsimp only
     exact ⟨minv_step hI hz27 (by rw [if_pos h31, if_pos (by simpa using h33)]; exact bump_set rfl hz44 hw1) (by first | (exfalso; omega) | rw [if_pos (by omega)] | rw [if_neg (by omega)]) (by first | (exfalso; omega) | rw [if_pos (by omega)] | rw [if_neg (by omega)]) rfl, by omega⟩
    refine Zk ?_
    refine Zr ?_
    refine VL.q (q_add rfl rfl ⟨by omega, by omega⟩) (by decide) ?_
    refine Zm ?_
    refine VL.anyI ((k + 1), (i + 1), j, decide (z27.op = 1), w1) [0, 1, 4, 5, 6, 7, 23, 24, 25, 9, 10, 11, 8] (fun _ _ h => h) ?_ rfl (by (try dsimp only); exact EntO.out)
    try dsimp only
    exact ⟨minv_step hI hz27 (by rw [if_pos h31, if_pos (by simpa using h33)]; exact bump_set rfl hz44 hw1) (by first | (exfalso; omega) | rw [if_pos (by omega)] | rw [if_neg (by omega)]) (by first | (exfalso; omega) | rw [if_pos (by omega)] | rw [if_neg (by omega)]) rfl, by omega⟩
   refine Zk ?_
   refine Zq (Zr ?_)
   refine VL.q (q_field fa366_0 rfl) (by decide) ?_
   refine VL.q (q_fe one3 rfl rfl) (by decide) ?_
   refine VL.q (q_neq rfl rfl) (by decide) ?_
   refine Zl ?_
   refine VC.cond_ndec rfl (fun h60 => ?_) (fun h60 => ?_)
   ·
    refine Zr ?_
    refine Zm ?_
    refine VL.q (q_add rfl rfl ⟨by omega, by omega⟩) (by decide) ?_
    refine Za ?_
    refine Zl ?_
    refine Zr ?_
    refine VL.q (q_add rfl rfl ⟨by omega, by omega⟩) (by decide) ?_
    refine Zm ?_
    refine VL.anyI ((k + 1), i, (j + 1), decide (z27.op = 1), w1) [0, 1, 4, 5, 6, 7, 23, 24, 25, 9, 10, 11, 8] (fun _ _ h => h) ?_ rfl (by (try dsimp only); exact EntO.out)
    try dsimp only
    exact ⟨minv_step hI hz27 (by rw [if_pos h31, if_pos (by simpa using h33)]; exact bump_set rfl hz44 hw1) (by first | (exfalso; omega) | rw [if_pos (by omega)] | rw [if_neg (by omega)]) (by first | (exfalso; omega) | rw [if_pos (by omega)] | rw [if_neg (by omega)]) rfl, by omega⟩
   refine Zk ?_
   refine Zr ?_
   refine VL.q (q_add rfl rfl ⟨by omega, by omega⟩) (by decide) ?_
   refine Zm ?_
   refine VL.anyI ((k + 1), i, j, decide (z27.op = 1), w1) [0, 1, 4, 5, 6, 7, 23, 24, 25, 9, 10, 11, 8] (fun _ _ h => h) ?_ rfl (by (try dsimp only); exact EntO.out)
   try dsimp only
   exact ⟨minv_step hI hz27 (by rw [if_pos h31, if_pos (by simpa using h33)]; exact bump_set rfl hz44 hw1) (by first | (exfalso; omega) | rw [if_pos (by omega)] | rw [if_neg (by omega)]) (by first | (exfalso; omega) | rw [if_pos (by omega)] | rw [if_neg (by omega)]) rfl, by omega⟩
  refine Zk ?_
  refine Zq (Zr ?_)
  refine VL.q (q_field fa366_0 rfl) (by decide) ?_
  refine VL.q (q_fe one3 rfl rfl) (by decide) ?_
  refine VL.q (q_eql rfl rfl) (by decide) ?_
  refine Za ?_
  refine Zl ?_
  refine Zq (Zq (Zr ?_))
  refine VL.q (q_field fa366_0 rfl) (by decide) ?_
  refine VL.q (q_fe one3 rfl rfl) (by decide) ?_
  refine VL.q (q_neq rfl rfl) (by decide) ?_
  refine Zl ?_
  refine VC.cond_ndec rfl (fun h55 => ?_) (fun h55 => ?_)
  ·
   refine Zr ?_
   refine Zm ?_
   refine VL.q (q_add rfl rfl ⟨by omega, by omega⟩) (by decide) ?_
   refine Za ?_
   refine Zl ?_
   refine Zq (Zr ?_)
   refine VL.q (q_field fa366_0 rfl) (by decide) ?_
   refine VL.q (q_fe one3 rfl rfl) (by decide) ?_
   refine VL.q (q_neq rfl rfl) (by decide) ?_
   refine Zl ?_
   refine VC.cond_ndec rfl (fun h60 => ?_) (fun h60 => ?_)
   ·
    refine Zr ?_
    refine Zm ?_
    refine VL.q (q_add rfl rfl ⟨by omega, by omega⟩) (by decide) ?_
    refine Za ?_
    refine Zl ?_
    refine Zr ?_
    refine VL.q (q_add rfl rfl ⟨by omega, by omega⟩) (by decide) ?_
    refine Zm ?_
    refine VL.anyI ((k + 1), (i + 1), (j + 1), decide (z27.op = 1), o) [0, 1, 4, 5, 6, 7, 23, 24, 25, 9, 10, 11, 8] (fun _ _ h => h) ?_ rfl (by (try dsimp only); exact EntO.out)
    try dsimp only
    exact ⟨minv_step hI hz27 (by rw [if_neg h31]) (by first | (exfalso; omega) | rw [if_pos (by omega)] | rw [if_neg (by omega)]) (by first | (exfalso; omega) | rw [if_pos (by omega)] | rw [if_neg (by omega)]) rfl, by omega⟩
   refine Zk ?_
   refine Zr ?_
   refine VL.q (q_add rfl rfl ⟨by omega, by omega⟩) (by decide) ?_
   refine Zm ?_
   refine VL.anyI ((k + 1), (i + 1), j, decide (z27.op = 1), o) [0, 1, 4, 5, 6, 7, 23, 24, 25, 9, 10, 11, 8] (fun _ _ h => h) ?_ rfl (by (try dsimp only); exact EntO.out)
   try dsimp only
   exact ⟨minv_step hI hz27 (by rw [if_neg h31]) (by first | (exfalso; omega) | rw [if_pos (by omega)] | rw [if_neg (by omega)]) (by first | (exfalso; omega) | rw [if_pos (by omega)] | rw [if_neg (by omega)]) rfl, by omega⟩
  refine Zk ?_
  refine Zq (Zr ?_)
  refine VL.q (q_field fa366_0 rfl) (by decide) ?_
  refine VL.q (q_fe one3 rfl rfl) (by decide) ?_
  refine VL.q (q_neq rfl rfl) (by decide) ?_
  refine Zl ?_
  refine VC.cond_ndec rfl (fun h60 => ?_) (fun h60 => ?_)
  ·
   refine Zr ?_
   refine Zm ?_
   refine VL.q (q_add rfl rfl ⟨by omega, by omega⟩) (by decide) ?_
   refine Za ?_
   refine Zl ?_
   refine Zr ?_
   refine VL.q (q_add rfl rfl ⟨by omega, by omega⟩) (by decide) ?_
   refine Zm ?_
   refine VL.anyI ((k + 1), i, (j + 1), decide (z27.op = 1), o) [0, 1, 4, 5, 6, 7, 23, 24, 25, 9, 10, 11, 8] (fun _ _ h => h) ?_ rfl (by (try dsimp only); exact EntO.out)
   try dsimp only
   exact ⟨minv_step hI hz27 (by rw [if_neg h31]) (by first | (exfalso; omega) | rw [if_pos (by omega)] | rw [if_neg (by omega)]) (by first | (exfalso; omega) | rw [if_pos (by omega)] | rw [if_neg (by omega)]) rfl, by omega⟩
  refine Zk ?_
  refine Zr ?_
  refine VL.q (q_add rfl rfl ⟨by omega, by omega⟩) (by decide) ?_
  refine Zm ?_
  refine VL.anyI ((k + 1), i, j, decide (z27.op = 1), o) [0, 1, 4, 5, 6, 7, 23, 24, 25, 9, 10, 11, 8] (fun _ _ h => h) ?_ rfl (by (try dsimp only); exact EntO.out)
  try dsimp only
  exact ⟨minv_step hI hz27 (by rw [if_neg h31]) (by first | (exfalso; omega) | rw [if_pos (by omega)] | rw [if_neg (by omega)]) (by first | (exfalso; omega) | rw [if_pos (by omega)] | rw [if_neg (by omega)]) rfl, by omega⟩
 refine Zx ?_
 refine Zq ?_
 refine VC.shut o 342 (fun _ _ _ _ => trivial) ?_
 refine Zr ?_
 refine Zm ?_
 refine VL.callF (clipM_ct o) rfl (by decide) ?_
 rintro s65 hs65
 refine Za ?_
 refine Za ?_
 refine Zl ?_
 exact VC.ret (fin2I (.inr rfl) rfl rfl rfl s65 rfl ((by rw [hs65, ← hl, ← hI.eq, List.drop_eq_nil_of_le (by omega)]; rfl)) (fun _ _ => trivial))
end Go.Proofs.YtleokmhhloamaaaGreatDoor
end

section
namespace Go.Proofs
open Go.Shelf
def Tryz.lays264_ren : Go.Shelf.Ren := ⟨fun | 264 => 301 | n => n, fun | 53 => 231 | 46 => 232 | n => n, fun | n => n⟩
theorem Tryz.lays264 : Go.Proofs.Lays.n264 Tryz.prog Tryz.lays264_ren := {
  mixed := by kernel_rfl
  f264 := Tryz.func301.trans (congrArg some (by kernel_rfl))
  t46 := Tryz.underlying232
  a46 := Tryz.isAgg232
  z46 := Tryz.sizeOf232
  v46 := Tryz.zeroValue232
  t53 := Tryz.underlying231
  a53 := Tryz.isAgg231
  z53 := Tryz.sizeOf231
  v53 := Tryz.zeroValue231 }
open Go.RowKit Go.Lib in
theorem Tryz.bits_Mul64 (x y : Nat) (hx : x < 18446744073709551616) (hy : y < 18446744073709551616) (w : World) :
    Calls Tryz.prog 301 #[.int .u64 x, .int .u64 y] w fun e w' => e = .returned (.tuple #[.int .u64 ((x * y / 18446744073709551616 : Nat) : Int), .int .u64 ((x * y % 18446744073709551616 : Nat) : Int)]) ∧ w' = w := Any.bits_Mul64 Tryz.lays264 x y hx hy w
def Tryz.lays212_ren : Go.Shelf.Ren := ⟨fun | 212 => 285 | 263 => 300 | 264 => 301 | n => n, fun | 46 => 232 | 51 => 233 | 146 => 376 | 53 => 231 | 148 => 378 | n => n, fun | n => n⟩
theorem Tryz.lays212 : Go.Proofs.Lays.n212 Tryz.prog Tryz.lays212_ren := {
  mixed := by kernel_rfl
  f212 := Tryz.func285.trans (congrArg some (by kernel_rfl))
  f263 := Tryz.func300.trans (congrArg some (by kernel_rfl))
  f264 := Tryz.func301.trans (congrArg some (by kernel_rfl))
  t46 := Tryz.underlying232
  a46 := Tryz.isAgg232
  z46 := Tryz.sizeOf232
  v46 := Tryz.zeroValue232
  t51 := Tryz.underlying233
  a51 := Tryz.isAgg233
  z51 := Tryz.sizeOf233
  v51 := Tryz.zeroValue233
  t53 := Tryz.underlying231
  a53 := Tryz.isAgg231
  z53 := Tryz.sizeOf231
  v53 := Tryz.zeroValue231
  t146 := Tryz.underlying376
  a146 := Tryz.isAgg376
  z146 := Tryz.sizeOf376
  v146 := Tryz.zeroValue376
  t148 := Tryz.underlying378
  a148 := Tryz.isAgg378
  z148 := Tryz.sizeOf378
  v148 := Tryz.zeroValue378 }
open Go.RowKit Go.Lib in
/-- math/bits.Mul: "Mul returns the full-width product of x and y": on a machine of 64 bits: Mul64's. (LAID: no walk: one application.) -/
theorem Tryz.bits_Mul (x y : Nat) (hx : x < 18446744073709551616) (hy : y < 18446744073709551616) (w : World) :
    Calls Tryz.prog 285 #[.int .u64 x, .int .u64 y] w fun e w' => e = .returned (.tuple #[.int .u64 ((x * y / 18446744073709551616 : Nat) : Int), .int .u64 ((x * y % 18446744073709551616 : Nat) : Int)]) ∧ w' = w := Any.bits_Mul Tryz.lays212 x y hx hy w
end Go.Proofs
end

section
namespace Go.Proofs.YtleokmhhloamaaaGreatDoor
open Go.RowKit Go.V
open Go.P hiding Str
theorem mul1_ct (x n : Int) (hx : x = 1) (h0 : 0 ≤ n) (h1 : n ≤ 1048576) : Ct Tryz.prog 285 [.int .u64 x, .int .u64 n] Mo.tt Ow.emp (X := Unit) (fun _ => .tuple #[.int .u64 0, .int .u64 n]) (fun _ => True) (fun _ => Mo.tt) (fun _ => Ow.emp) :=
  Ct.of_gr (entry_of Tryz.func285 rfl (by kernel_rfl)) fun w h _ _ => by
  have := Tryz.bits_Mul 1 n.toNat (by omega) (by omega) w
  subst hx
  have e1 : ((n.toNat : Nat) : Int) = n := by omega
  have e2 : 1 * n.toNat / 18446744073709551616 = 0 := by omega
  have e3 : 1 * n.toNat % 18446744073709551616 = n.toNat := by omega
  rw [e2, e3, e1] at this
  refine this.mono fun e w' ⟨h1, h2⟩ => ⟨h1, h2 ▸ Gr.refl w⟩
set_option maxRecDepth 100000 in
 theorem repeat_ct (r : Sv Int) (v n : Int) (hr : r.l = [v]) (h0 : 0 ≤ n) (h1 : n ≤ 1048576) :
 Ct Tryz.prog 262 [r.val, i64 n] r.ok Ow.emp (X := Sv Int) Sv.val (fun q => q.l = List.replicate n.toNat v) (fun _ => Mo.tt) (fun q => q.own 3) := by
 have hrl : (r.l.length : Int) = 1 := by rw [hr]; rfl
 refine Ct.of Tryz.func262 rfl (by kernel_rfl) Tryz.ntmps262 (by simp) fun c => ?_
 refine Zq (Zr ?_)
 refine Za ?_
 refine Zl ?_
 refine Zq (Zq (Zr ?_))
 refine Zm ?_
 refine VL.q (q_lss rfl rfl) (by decide) ?_
 refine Zl ?_
 refine VC.cond_dec rfl (fun h10 => ?_) (fun h10 => ?_)
 ·
  exact absurd h10 (by omega)
 refine Zk ?_
 refine Zq (Zr ?_)
 refine Zm ?_
 refine VL.q (q_ln (s := r) Tryz.underlying26 rfl) (by decide) ?_
 refine VL.q (q_conv Tryz.underlying3 Tryz.underlying232 rfl (by rw [hrl]; rfl)) (by decide) ?_
 refine Zm ?_
 refine VL.q (q_conv Tryz.underlying3 Tryz.underlying232 rfl (wrap_u64 (by omega) (by omega))) (by decide) ?_
 refine VL.q (q_call (mul1_ct (r.l.length : Int) n hrl h0 h1) rfl (fun _ _ => rfl)) (by decide) ?_
 refine Zm ?_
 refine VL.q (q_extract rfl rfl) (by decide) ?_
 refine VL.q (q_extract rfl rfl) (by decide) ?_
 refine Za ?_
 refine Za ?_
 refine Zl ?_
 refine Zq (Zq (Zr ?_))
 refine Zm ?_
 refine VL.q (q_gtr rfl rfl) (by decide) ?_
 refine VL.setv 22 rfl (congrArg Value.bool (decide_eq_false (by omega))) ?_
 refine Zm ?_
 refine Zg ?_
 refine VL.gy rfl rfl (q_gtr rfl rfl) (by decide) ?_
 refine Zf ?_
 refine Zl ?_
 refine VC.cond_dec rfl (fun h26 => ?_) (fun h26 => ?_)
 ·
  exact absurd h26 (by omega)
 refine Zk ?_
 refine Zq (Zr ?_)
 refine Zm ?_
 refine VL.q (q_conv Tryz.underlying232 Tryz.underlying3 rfl (IntWalk.i64_in _ (by omega))) (by decide) ?_
 refine VL.make (α := Int) (z := 0) Tryz.underlying26 mk3 (by decide) rfl rfl (by omega) (by omega) (by omega) (by omega) (by decide) (fun s30 hs30 => ?_)
 refine Za ?_
 refine Zl ?_
 refine Zq (Zr ?_)
 refine Zm ?_
 refine Zm ?_
 refine VL.copy (s := s30) (T := 3) (k := 0) (n := s30.l.length) (sr := r.l) rfl Tryz.underlying26 sz3 Fo.out rfl (by simp) (fun _ => .inr ⟨rfl, rfl⟩) (ok_src rfl) (by decide) fun s33 hs33 hv33 ha33 hc33 => ?_
 rw [← hv33]
 refine Za ?_
 refine Zl ?_
 refine Zq (Zb ?_)
 refine VC.loopK (S := Int × Sv Int) (fun sg => 0 ≤ sg.1 ∧ sg.1 ≤ sg.2.l.length ∧ sg.2.l.length = n.toNat ∧ sg.2.l.take sg.1.toNat = List.replicate sg.1.toNat v ∧ (sg.1 = 0 → n = 0)) (fun sg => [(0, r.val), (1, i64 n), (4, .slice none 0 0), (5, .int .u64 (0 : Int)), (6, .int .u64 n), (7, sg.2.val), (8, i64 sg.1), (7, sg.2.val)]) (fun sg => Ow.star (Sv.own sg.2 3) (Ow.emp)) (fun sg => (sg.2.l.length - sg.1).toNat) (((min r.l.length s30.l.length : Nat) : Int), s33) [0, 1, 4, 5, 6, 7, 8, 7] (by (try dsimp only); exact rep_init h0 hr hs30 hs33) rfl (by (try dsimp only); exact EntO.out) ?_
 rintro ⟨m, s⟩ hI
 show VC _ _ _ _ _ [(0, r.val), (1, i64 n), (4, .slice none 0 0), (5, .int .u64 (0 : Int)), (6, .int .u64 n), (7, s.val), (8, i64 m), (7, s.val)] _ (Ow.star (Sv.own s 3) (Ow.emp))
 try dsimp only at hI
 obtain ⟨h0m, h1m, hsl, hm, hmz⟩ := hI
 refine Zq (Zq (Zr ?_))
 refine Zm ?_
 refine Zm ?_
 refine VL.q (q_ln (s := s) Tryz.underlying26 rfl) (by decide) ?_
 refine VL.q (q_lss rfl rfl) (by decide) ?_
 refine Zl ?_
 refine VC.cond_dec rfl (fun h37 => ?_) (fun h37 => ?_)
 ·
  refine Zk ?_
  refine Zb ?_
  refine VC.lenO s fun hlc hcm => ?_
  refine VC.draw [(0, true), (1, true), (2, true), (3, true), (4, true), (5, true), (6, true), (7, false), (8, true), (9, true)] mixed (by kernel_rfl) (by kernel_rfl) (by kernel_rfl) ?_
  refine VD.q rfl (q_move rfl) (by decide) ?_
  refine VD.q rfl (q_move rfl) (by decide) ?_
  refine VD.q rfl (q_move rfl) (by decide) ?_
  refine VD.q rfl (q_cut (s := s) m.toNat s.l.length s.c Tryz.underlying26 sz3 rfl rfl rfl rfl (by show m = _; omega) rfl rfl (fun h => by cases h) (by omega) hlc (Nat.le_refl _) (Nat.le_refl _)) (by decide) ?_
  refine VD.q rfl (q_move rfl) (by decide) ?_
  refine VD.q rfl (q_move rfl) (by decide) ?_
  refine VD.q rfl (q_cut (s := s) 0 m.toNat s.c Tryz.underlying26 sz3 rfl rfl rfl rfl rfl (by show m = _; omega) rfl (fun h => by cases h) (by omega) (by omega) (Nat.le_refl _) (by omega)) (by decide) ?_
  refine VD.one rfl ?_
  refine VL.copy (s := s) (T := 3) (k := m.toNat) (n := ((s.l.drop m.toNat).take (s.l.length - m.toNat)).length) (sr := (s.l.drop 0).take (m.toNat - 0)) rfl Tryz.underlying26 sz3 Fo.out rfl (by simp; omega) (fun hn => .inl (if_neg (by simp at hn; omega))) (own_src rfl (by omega)) (by decide) fun s' hs' hv' ha' hc' => ?_
  rw [← hv']
  refine VL.back (D' := []) (by kernel_rfl) (Pend.nil) ?_
  obtain ⟨r1, r2, r3, r4⟩ := rep_step h0m h1m hm hs'
  refine VD.q rfl (q_add rfl rfl ⟨by omega, by omega⟩) (by decide) ?_
  refine VD.q rfl (q_assign rfl) (by decide) ?_
  refine VD.anyI ((m + ((min ((s.l.drop 0).take (m.toNat - 0)).length ((s.l.drop m.toNat).take (s.l.length - m.toNat)).length : Nat) : Int)), s') [0, 1, 4, 5, 6, 7, 8, 7] (fun _ _ h => h) ?_ rfl (by (try dsimp only); exact EntO.out)
  try dsimp only
  exact ⟨⟨by omega, by omega, by omega, r2, by omega⟩, by omega⟩
 refine Zx ?_
 refine Zq (Zr ?_)
 refine Zm ?_
 refine Za ?_
 refine Zl ?_
 exact VC.ret (fin1I (.inr rfl) rfl rfl s rfl ((rep_end h1m (by assumption) hsl hm)) HasO.out)
end Go.Proofs.YtleokmhhloamaaaGreatDoor
end

section
namespace Go.Proofs.YtleokmhhloamaaaGreatDoor
open Go.RowKit Go.V
open Go.P hiding Str
theorem lit3 : ((Tryz.prog.info? 3).map fun i => (i.size, i.zero.isSome)) = some (1, true) := by kernel_rfl
theorem agg342 : AggOf Tryz.prog 342 3 := aggOf_of Tryz.underlying342 rfl (by kernel_rfl)
theorem fa342_0 : FieldAt Tryz.prog 342 0 0 := fieldAt_sz (n := 0) (f := ⟨_, _, 0, _, _, _, _⟩) Tryz.underlying342 rfl (by kernel_rfl)
theorem fa342_1 : FieldAt Tryz.prog 342 1 1 := fieldAt_sz (n := 0) (f := ⟨_, _, 1, _, _, _, _⟩) Tryz.underlying342 rfl (by kernel_rfl)
set_option maxRecDepth 100000 in
 theorem places_ct (a b : Sv Str) (ha : a.l.length ≤ 256) (hb : b.l.length ≤ 256) :
 Ct Tryz.prog 224 [a.val, b.val] (a.ok.and b.ok) Ow.emp (X := Sv Int) (fun q => .tuple #[q.val, .nilIface]) (fun q => q.l = places a.l b.l) (fun q => q.ok) (fun _ => Ow.emp) := by
 refine Ct.of Tryz.func224 rfl (by kernel_rfl) Tryz.ntmps224 (by simp) fun c => ?_
 refine Zq (Zr ?_)
 refine Za ?_
 refine Za ?_
 refine Zl ?_
 refine Zq (Zr ?_)
 refine Zm ?_
 refine Zm ?_
 refine VL.callF (matches_ct a b ha hb) rfl (by decide) ?_
 rintro l hl
 refine Zm ?_
 refine VL.q (q_extract rfl rfl) (by decide) ?_
 refine VL.q (q_extract rfl rfl) (by decide) ?_
 refine Za ?_
 refine Za ?_
 refine Zl ?_
 refine Zq (Zq (Zr ?_))
 refine Zm ?_
 refine VL.q (q_nilne Tryz.underlying29 rfl) (by decide) ?_
 refine Zl ?_
 refine VC.cond_f rfl ?_
 refine Zk ?_
 refine Zq (Zr ?_)
 refine VL.lit (α := Int) (xs := [.const (i64 (-1))]) (vs := [i64 (-1)]) [(-1)] Tryz.underlying26 lit3 (by decide) rfl rfl rfl rfl (by decide) (fun _ _ _ _ => trivial) (by decide) (fun s21 hs21 => ?_) (by decide)
 refine Zm ?_
 refine VL.q (q_ln (s := a) Tryz.underlying82 rfl) (by decide) ?_
 refine VL.callO (repeat_ct s21 (-1) (a.l.length : Int) hs21 (by omega) (by omega)) rfl (by decide) ?_
 rintro s24 hs24
 refine Za ?_
 refine Zl ?_
 refine Zq (Zq (Zr ?_))
 refine Zm ?_
 refine VL.q (q_ln (s := l) Tryz.underlying337 rfl) (by decide) ?_
 refine Zm ?_
 refine Zl ?_
 refine Zb ?_
 refine VC.len l fun hll => ?_
 refine VC.loopK (S := Int × Sv Int) (fun sg => 0 ≤ sg.1 ∧ sg.1 ≤ l.l.length ∧ sg.2.l = fill (List.replicate a.l.length (-1)) (l.l.take sg.1.toNat)) (fun sg => [(0, a.val), (1, b.val), (4, .slice none 0 0), (5, .nilIface), (6, l.val), (7, .nilIface), (8, sg.2.val), (25, l.val), (26, i64 (l.l.length : Int)), (27, i64 sg.1), (8, sg.2.val)]) (fun sg => Ow.star (Sv.own sg.2 3) (Ow.emp)) (fun sg => (l.l.length - sg.1).toNat) (0, s24) [0, 1, 4, 5, 6, 7, 8, 25, 26, 27, 8] (by (try dsimp only); exact ⟨by omega, by omega, by rw [hs24]; simp [fill]⟩) rfl (by (try dsimp only); exact EntO.out) ?_
 rintro ⟨k, o⟩ hI
 show VC _ _ _ _ _ [(0, a.val), (1, b.val), (4, .slice none 0 0), (5, .nilIface), (6, l.val), (7, .nilIface), (8, o.val), (25, l.val), (26, i64 (l.l.length : Int)), (27, i64 k), (8, o.val)] _ (Ow.star (Sv.own o 3) (Ow.emp))
 try dsimp only at hI
 obtain ⟨k0, k1, ho⟩ := hI
 refine Zq (Zr ?_)
 refine VL.q (q_lss rfl rfl) (by decide) ?_
 refine Zl ?_
 refine Zq ?_
 refine VC.cond_dec rfl (fun h28 => ?_) (fun h28 => ?_)
 ·
  refine Zk ?_
  refine Zq (Zb (Zq (Zr ?_)))
  obtain ⟨z29, hz29⟩ : ∃ z, l.l[(k).toNat]? = some z := ⟨_, List.getElem?_eq_getElem (by omega)⟩
  refine VL.q (q_ixm (s := l) Tryz.underlying337 sz342 rfl rfl (by omega) (by omega)) (by decide) ?_
  refine VL.q (q_els (s := l) agg342 rfl rfl hz29) (by decide) ?_
  refine VL.alloc (cs := [i64 0, i64 0, i64 0]) (by kernel_rfl) (by decide) fun b10 => ?_
  refine VL.store (vc := [i64 z29.a, i64 z29.b, i64 z29.n]) (cs' := [i64 z29.a, i64 z29.b, i64 z29.n]) rfl rfl rfl sz342 rfl rfl (Nat.le_of_ble_eq_true rfl) rfl ?_
  refine Zl ?_
  refine Zq ?_
  have hbd := mats_bd a.l b.l z29 (by rw [← hl]; exact List.mem_of_getElem? hz29)
  have hlo : o.l.length = a.l.length := by rw [ho, fill_length]; simp
  refine Zr ?_
  refine VL.q (q_field fa342_2 rfl) (by decide) ?_
  refine VL.q (q_fe one3 rfl rfl) (by decide) ?_
  refine Zm ?_
  refine Zl ?_
  refine Zb ?_
  refine VC.loopK (S := Int × Sv Int) (fun sg => 0 ≤ sg.1 ∧ sg.1 ≤ z29.n ∧ sg.2.l = fillN o.l z29 sg.1.toNat) (fun sg => [(0, a.val), (1, b.val), (4, .slice none 0 0), (5, .nilIface), (6, l.val), (7, .nilIface), (25, l.val), (26, i64 (l.l.length : Int)), (27, i64 k), (8, sg.2.val), (10, ptr b10 0), (32, i64 z29.n), (33, i64 sg.1), (8, sg.2.val)]) (fun sg => Ow.star (Sv.own sg.2 3) (Ow.star (Blk b10 [i64 z29.a, i64 z29.b, i64 z29.n] 342) (Ow.emp))) (fun sg => (z29.n - sg.1).toNat) (0, o) [0, 1, 4, 5, 6, 7, 25, 26, 27, 8, 10, 32, 33, 8] (by (try dsimp only); exact ⟨by omega, by omega, rfl⟩) rfl (by (try dsimp only); exact EntO.out) ?_
  rintro ⟨x, p⟩ hI
  show VC _ _ _ _ _ [(0, a.val), (1, b.val), (4, .slice none 0 0), (5, .nilIface), (6, l.val), (7, .nilIface), (25, l.val), (26, i64 (l.l.length : Int)), (27, i64 k), (8, p.val), (10, ptr b10 0), (32, i64 z29.n), (33, i64 x), (8, p.val)] _ (Ow.star (Sv.own p 3) (Ow.star (Blk b10 [i64 z29.a, i64 z29.b, i64 z29.n] 342) (Ow.emp)))
  try dsimp only at hI
  obtain ⟨x0, x1, hp⟩ := hI
  have hlp : p.l.length = o.l.length := by rw [hp, fillN_length]
  refine Zq (Zr ?_)
  refine VL.q (q_lss rfl rfl) (by decide) ?_
  refine Zl ?_
  refine Zq ?_
  refine VC.cond_dec rfl (fun h34 => ?_) (fun h34 => ?_)
  ·
   refine Zk ?_
   refine Zq (Zb (Zq (Zr ?_)))
   refine Zm ?_
   refine Za ?_
   refine Zl ?_
   refine Zr ?_
   refine Zm ?_
   refine VL.q (q_field fa342_0 rfl) (by decide) ?_
   refine VL.q (q_fe one3 rfl rfl) (by decide) ?_
   refine Zm ?_
   refine VL.q (q_add rfl rfl ⟨by omega, by omega⟩) (by decide) ?_
   refine VL.q (q_field fa342_1 rfl) (by decide) ?_
   refine VL.q (q_fe one3 rfl rfl) (by decide) ?_
   refine Zm ?_
   refine VL.q (q_add rfl rfl ⟨by omega, by omega⟩) (by decide) ?_
   obtain ⟨z45, hz45⟩ : ∃ z, p.l[((z29.a + x)).toNat]? = some z := ⟨_, List.getElem?_eq_getElem (by omega)⟩
   refine VL.q (q_ixo (s := p) Tryz.underlying26 sz3 rfl rfl (by omega) (by omega)) (by decide) ?_
   refine VL.storeE (s := p) (T := 3) (j := 0) (vc := [i64 (z29.b + x)]) ((z29.b + x) : Int) (by decide) rfl rfl hz45 rfl sz3 rfl rfl (Nat.le_of_ble_eq_true rfl) rfl (fun w0 hw0 haw0 hcw0 hvw0 hbw0 how0 => ?_)
   rw [← hvw0]
   refine Zl ?_
   refine Zr ?_
   refine VL.q (q_add rfl rfl ⟨by omega, by omega⟩) (by decide) ?_
   refine Zm ?_
   refine VL.anyI ((x + 1), w0) [0, 1, 4, 5, 6, 7, 25, 26, 27, 8, 10, 32, 33, 8] (fun _ _ h => h) ?_ rfl (by (try dsimp only); exact EntO.out)
   try dsimp only
   exact ⟨⟨by omega, by omega, fillN_step x0 hp hw0⟩, by omega⟩
  refine Zx ?_
  refine Zr ?_
  refine VL.q (q_add rfl rfl ⟨by omega, by omega⟩) (by decide) ?_
  refine Zm ?_
  refine VL.anyI ((k + 1), p) [0, 1, 4, 5, 6, 7, 8, 25, 26, 27, 8] (fun _ _ h => h) ?_ rfl (by (try dsimp only); exact EntO.out)
  try dsimp only
  exact ⟨⟨by omega, by omega, by rw [fill_snoc k0 hz29, ← ho, hp]; congr 1; omega⟩, by omega⟩
 refine Zx ?_
 refine Zq (Zr ?_)
 refine Zm ?_
 refine Za ?_
 refine Za ?_
 refine Zl ?_
 refine VC.shut o 3 (fun _ _ _ _ => trivial) ?_
 exact VC.ret (fin2I (.inr rfl) rfl rfl rfl o rfl ((by rw [ho, List.take_of_length_le (by omega), hl]; rfl)) (fun _ _ => trivial))
end Go.Proofs.YtleokmhhloamaaaGreatDoor
end

section
namespace Go.Proofs.YtleokmhhloamaaaGreatDoor
open Go.RowKit Go.V
open Go.P hiding Str
theorem sz261 : (Tryz.prog.info? 261).map (·.size) = some 5 := by kernel_rfl
theorem fa261_4 : FieldAt Tryz.prog 261 4 4 := fieldAt_sz (n := 0) (f := ⟨_, _, 4, _, _, _, _⟩) Tryz.underlying261 rfl (by kernel_rfl)
theorem sz82 : (Tryz.prog.info? 82).map (·.size) = some 1 := by kernel_rfl
theorem agg261 : AggOf Tryz.prog 261 5 := aggOf_of Tryz.underlying261 rfl (by kernel_rfl)
theorem fa261_3 : FieldAt Tryz.prog 261 3 3 := fieldAt_sz (n := 0) (f := ⟨_, _, 3, _, _, _, _⟩) Tryz.underlying261 rfl (by kernel_rfl)
theorem sz4 : (Tryz.prog.info? 4).map (·.size) = some 1 := by kernel_rfl
set_option maxRecDepth 100000 in
 theorem gap_ct (a b d : Sv Str) (ha : a.l.length ≤ 1048576) (hb : b.l.length ≤ 1048576) (hd : d.l.length ≤ 1048576) :
 Ct Tryz.prog 263 [a.val, b.val, d.val] (a.ok.and (b.ok.and d.ok)) Ow.emp (X := Ck) (fun x => .agg (Dat.enc x).toArray) (fun x => x.pl = gapv a.l b.l d.l) (fun x => x.m) (fun _ => Ow.emp) := by
 refine Ct.of Tryz.func263 rfl (by kernel_rfl) Tryz.ntmps263 (by simp) fun c => ?_
 refine Zq (Zr ?_)
 refine VL.alloc (cs := [.slice none 0 0, .slice none 0 0, .slice none 0 0, .bool false, .slice none 0 0]) (by kernel_rfl) (by decide) fun b6 => ?_
 refine Zl ?_
 refine Zq (Zr ?_)
 refine Zm ?_
 refine VL.callF (some_ct a (by first | assumption | omega)) rfl (by decide) ?_
 rintro s9 hs9
 refine Zm ?_
 refine VL.callF (some_ct b (by first | assumption | omega)) rfl (by decide) ?_
 rintro s11 hs11
 refine Zm ?_
 refine VL.callF (some_ct d (by first | assumption | omega)) rfl (by decide) ?_
 rintro s13 hs13
 refine VL.q (q_build (vs := [(0, s9.val), (1, s11.val), (2, s13.val)]) (cs := #[s9.val, s11.val, s13.val, .bool false, .slice none 0 0]) rfl (by kernel_rfl)) (by decide) ?_
 refine VL.alloc (cs := [.slice none 0 0, .slice none 0 0, .slice none 0 0, .bool false, .slice none 0 0]) (by kernel_rfl) (by decide) fun b7 => ?_
 refine VL.store (vc := [s9.val, s11.val, s13.val, .bool false, .slice none 0 0]) (cs' := [s9.val, s11.val, s13.val, .bool false, .slice none 0 0]) rfl rfl rfl sz261 rfl rfl (Nat.le_of_ble_eq_true rfl) rfl ?_
 refine Zl ?_
 refine Zq (Zb (Zq (Zr ?_)))
 refine Zm ?_
 refine Zm ?_
 refine VL.q (q_call (equal_ct b a) rfl (fun _ _ => rfl)) (by decide) ?_
 refine Za ?_
 refine Zl ?_
 refine VC.cond_dec rfl (fun h16 => ?_) (fun h16 => ?_)
 ·
  refine Zr ?_
  refine Zm ?_
  refine VL.callF (some_ct d (by first | assumption | omega)) rfl (by decide) ?_
  rintro s21 hs21
  refine VL.q (q_field fa261_4 rfl) (by decide) ?_
  refine VL.store (vc := [s21.val]) (cs' := [s9.val, s11.val, s13.val, .bool false, s21.val]) rfl rfl rfl sz82 rfl rfl (Nat.le_of_ble_eq_true rfl) rfl ?_
  refine Zl ?_
  refine Zq (Zr ?_)
  refine VL.q (q_fes agg261 rfl rfl) (by decide) ?_
  refine VL.store (vc := [s9.val, s11.val, s13.val, .bool false, s21.val]) (cs' := [s9.val, s11.val, s13.val, .bool false, s21.val]) rfl rfl rfl sz261 rfl rfl (Nat.le_of_ble_eq_true rfl) rfl ?_
  refine Zl ?_
  exact VC.ret (finC (cs := [s9.val, s11.val, s13.val, .bool false, s21.val]) (.inr rfl) rfl agg261 rfl rfl Rd.blk ⟨s9, s11, s13, false, s21⟩ rfl ((by simp [Ck.pl, gapv, *])) (fun h m => InM.out h m) (fun _ _ => trivial))
 refine Zq (Zq (Zr ?_))
 refine Zm ?_
 refine Zm ?_
 refine VL.q (q_call (equal_ct d a) rfl (fun _ _ => rfl)) (by decide) ?_
 refine Za ?_
 refine Zl ?_
 refine VC.cond_dec rfl (fun h23 => ?_) (fun h23 => ?_)
 ·
  refine VC.setv 23 rfl (congrArg Value.bool (decide_eq_true h23)) ?_
  refine Zk ?_
  refine VC.cond_t rfl ?_
  refine Zr ?_
  refine Zm ?_
  refine VL.callF (some_ct b (by first | assumption | omega)) rfl (by decide) ?_
  rintro s31 hs31
  refine VL.q (q_field fa261_4 rfl) (by decide) ?_
  refine VL.store (vc := [s31.val]) (cs' := [s9.val, s11.val, s13.val, .bool false, s31.val]) rfl rfl rfl sz82 rfl rfl (Nat.le_of_ble_eq_true rfl) rfl ?_
  refine Zl ?_
  refine Zq (Zr ?_)
  refine VL.q (q_fes agg261 rfl rfl) (by decide) ?_
  refine VL.store (vc := [s9.val, s11.val, s13.val, .bool false, s31.val]) (cs' := [s9.val, s11.val, s13.val, .bool false, s31.val]) rfl rfl rfl sz261 rfl rfl (Nat.le_of_ble_eq_true rfl) rfl ?_
  refine Zl ?_
  exact VC.ret (finC (cs := [s9.val, s11.val, s13.val, .bool false, s31.val]) (.inr rfl) rfl agg261 rfl rfl Rd.blk ⟨s9, s11, s13, false, s31⟩ rfl ((by simp [Ck.pl, gapv, *])) (fun h m => InM.out h m) (fun _ _ => trivial))
 refine VC.setv 23 rfl (congrArg Value.bool (decide_eq_false h23)) ?_
 refine Zr ?_
 refine Zm ?_
 refine Zm ?_
 refine VL.q (q_call (equal_ct b d) rfl (fun _ _ => rfl)) (by decide) ?_
 refine Za ?_
 refine Zl ?_
 refine VC.cond_dec rfl (fun h23 => ?_) (fun h23 => ?_)
 ·
  refine VC.setv 23 rfl (congrArg Value.bool (decide_eq_true h23)) ?_
  refine Zr ?_
  refine Zm ?_
  refine VL.callF (some_ct b (by first | assumption | omega)) rfl (by decide) ?_
  rintro s31 hs31
  refine VL.q (q_field fa261_4 rfl) (by decide) ?_
  refine VL.store (vc := [s31.val]) (cs' := [s9.val, s11.val, s13.val, .bool false, s31.val]) rfl rfl rfl sz82 rfl rfl (Nat.le_of_ble_eq_true rfl) rfl ?_
  refine Zl ?_
  refine Zq (Zr ?_)
  refine VL.q (q_fes agg261 rfl rfl) (by decide) ?_
  refine VL.store (vc := [s9.val, s11.val, s13.val, .bool false, s31.val]) (cs' := [s9.val, s11.val, s13.val, .bool false, s31.val]) rfl rfl rfl sz261 rfl rfl (Nat.le_of_ble_eq_true rfl) rfl ?_
  refine Zl ?_
  exact VC.ret (finC (cs := [s9.val, s11.val, s13.val, .bool false, s31.val]) (.inr rfl) rfl agg261 rfl rfl Rd.blk ⟨s9, s11, s13, false, s31⟩ rfl ((by simp [Ck.pl, gapv, *])) (fun h m => InM.out h m) (fun _ _ => trivial))
 refine VC.setv 23 rfl (congrArg Value.bool (decide_eq_false h23)) ?_
 refine Zr ?_
 refine VL.q (q_field fa261_3 rfl) (by decide) ?_
 refine VL.store (vc := [.bool true]) (cs' := [s9.val, s11.val, s13.val, .bool true, .slice none 0 0]) rfl rfl rfl sz4 rfl rfl (Nat.le_of_ble_eq_true rfl) rfl ?_
 refine Zl ?_
 refine Zq (Zr ?_)
 refine VL.q (q_fes agg261 rfl rfl) (by decide) ?_
 refine VL.store (vc := [s9.val, s11.val, s13.val, .bool true, .slice none 0 0]) (cs' := [s9.val, s11.val, s13.val, .bool true, .slice none 0 0]) rfl rfl rfl sz261 rfl rfl (Nat.le_of_ble_eq_true rfl) rfl ?_
 refine Zl ?_
 exact VC.ret (finC (cs := [s9.val, s11.val, s13.val, .bool true, .slice none 0 0]) (.inr rfl) rfl agg261 rfl rfl Rd.blk ⟨s9, s11, s13, true, ⟨none, 0, []⟩⟩ rfl ((by simp [Ck.pl, gapv, *])) (fun h m => InM.out h m) (fun _ _ => trivial))
end Go.Proofs.YtleokmhhloamaaaGreatDoor
end

section
namespace Go.Proofs.YtleokmhhloamaaaGreatDoor
open Go.RowKit Go.V
open Go.P hiding Str
theorem fa308_3 : FieldAt Tryz.prog 308 3 3 := fieldAt_sz (n := 0) (f := ⟨_, _, 3, _, _, _, _⟩) Tryz.underlying308 rfl (by kernel_rfl)
theorem fa308_6 : FieldAt Tryz.prog 308 6 6 := fieldAt_sz (n := 0) (f := ⟨_, _, 6, _, _, _, _⟩) Tryz.underlying308 rfl (by kernel_rfl)
theorem one253 : OneCell Tryz.prog 253 := oneCell_of Tryz.underlying253 rfl
theorem fa308_0 : FieldAt Tryz.prog 308 0 0 := fieldAt_sz (n := 0) (f := ⟨_, _, 0, _, _, _, _⟩) Tryz.underlying308 rfl (by kernel_rfl)
theorem fa308_1 : FieldAt Tryz.prog 308 1 1 := fieldAt_sz (n := 0) (f := ⟨_, _, 1, _, _, _, _⟩) Tryz.underlying308 rfl (by kernel_rfl)
theorem fa308_4 : FieldAt Tryz.prog 308 4 4 := fieldAt_sz (n := 0) (f := ⟨_, _, 4, _, _, _, _⟩) Tryz.underlying308 rfl (by kernel_rfl)
theorem fa308_2 : FieldAt Tryz.prog 308 2 2 := fieldAt_sz (n := 0) (f := ⟨_, _, 2, _, _, _, _⟩) Tryz.underlying308 rfl (by kernel_rfl)
theorem fa308_5 : FieldAt Tryz.prog 308 5 5 := fieldAt_sz (n := 0) (f := ⟨_, _, 5, _, _, _, _⟩) Tryz.underlying308 rfl (by kernel_rfl)
theorem lit261 : ((Tryz.prog.info? 261).map fun i => (i.size, i.zero.isSome)) = some (5, true) := by kernel_rfl
theorem app261 : ((Tryz.prog.info? 261).map fun i => (i.size, i.bytes, (i.zero.map fun z => z.cells.size))) = some (5, 104, some 5) := by kernel_rfl
theorem sz253 : (Tryz.prog.info? 253).map (·.size) = some 1 := by kernel_rfl
theorem fa308_7 : FieldAt Tryz.prog 308 7 7 := fieldAt_sz (n := 0) (f := ⟨_, _, 7, _, _, _, _⟩) Tryz.underlying308 rfl (by kernel_rfl)
set_option maxHeartbeats 8000000 in
 set_option maxRecDepth 100000 in
 theorem upto_ct (p : Nat) (bv ov tv : Sv Str) (out : Sv Ck) (op : Bool) (i j k i' j' k' : Int) (hput : i < i' ∨ j < j' ∨ k < k') (i0 : 0 ≤ i) (i1 : i ≤ i') (i2 : i' ≤ bv.l.length) (j0 : 0 ≤ j) (j1 : j ≤ j') (j2 : j' ≤ ov.l.length) (k0 : 0 ≤ k) (k1 : k ≤ k') (k2 : k' ≤ tv.l.length) (hb : bv.l.length ≤ 256) (ho : ov.l.length ≤ 256) (ht : tv.l.length ≤ 256) (hl : out.l.length ≤ 1048576) :
 Ct Tryz.prog 225 [ptr p 0, i64 i', i64 j', i64 k'] (bv.ok.and (ov.ok.and tv.ok)) (Ow.star (Blk p [bv.val, ov.val, tv.val, i64 i, i64 j, i64 k, out.val, .bool op] 308) (out.own 261)) (X := Sv Ck × Ck) (fun _ => .tuple #[]) (fun x => x.1.l = out.l ++ [x.2] ∧ x.2.pl = gapv ((bv.l.drop i.toNat).take (i'.toNat - i.toNat)) ((ov.l.drop j.toNat).take (j'.toNat - j.toNat)) ((tv.l.drop k.toNat).take (k'.toNat - k.toNat))) (fun x => x.2.m) (fun x => Ow.star (Blk p [bv.val, ov.val, tv.val, i64 i', i64 j', i64 k', x.1.val, .bool false] 308) (x.1.own 261)) := by
 refine Ct.of Tryz.func225 rfl (by kernel_rfl) Tryz.ntmps225 (by simp) fun c => ?_
 refine Zq (Zq (Zr ?_))
 refine Zm ?_
 refine Zm ?_
 refine VL.q (q_nilCheck rfl) (by decide) ?_
 refine VL.q (q_field fa308_3 rfl) (by decide) ?_
 refine VL.q (q_fe one3 rfl rfl) (by decide) ?_
 refine VL.q (q_gtr rfl rfl) (by decide) ?_
 refine Zm ?_
 refine VL.split_dec 14 rfl (fun h14 => ?_) (fun h14 => ?_)
 ·
  refine Zn ?_
  refine Zn ?_
  refine Zn ?_
  refine Zn ?_
  refine Zn ?_
  refine Zn ?_
  refine Zt ?_
  refine Zm ?_
  refine Zn ?_
  refine Zn ?_
  refine Zn ?_
  refine Zn ?_
  refine Zn ?_
  refine Zn ?_
  refine Zt ?_
  refine Zl ?_
  refine VC.cond_t rfl ?_
  refine Zq ?_
  refine VC.draw [(0, true), (1, true), (2, true), (3, true), (4, true), (5, true), (6, true), (7, true), (8, true), (9, true), (10, true), (11, true), (12, true), (13, true), (14, true), (15, true), (16, true), (17, true), (18, true), (19, true), (20, true), (21, true), (22, true), (23, true), (24, true), (25, true), (26, true), (27, true), (28, true), (29, true), (30, true), (31, true), (32, true), (33, true), (34, true), (35, false), (36, false), (37, false), (38, true), (39, true), (40, false)] mixed (by kernel_rfl) (by kernel_rfl) (by kernel_rfl) ?_
  refine VD.q rfl (q_move rfl) (by decide) ?_
  refine VD.q rfl (q_move rfl) (by decide) ?_
  refine VD.q rfl (q_nilCheck rfl) (by decide) ?_
  refine VD.q rfl (q_field fa308_6 rfl) (by decide) ?_
  refine VD.q rfl (q_fe one253 rfl rfl) (by decide) ?_
  refine VD.q rfl (q_move rfl) (by decide) ?_
  refine VD.q rfl (q_nilCheck rfl) (by decide) ?_
  refine VD.q rfl (q_field fa308_0 rfl) (by decide) ?_
  refine VD.q rfl (q_fe one82 rfl rfl) (by decide) ?_
  refine VD.q rfl (q_move rfl) (by decide) ?_
  refine VD.q rfl (q_nilCheck rfl) (by decide) ?_
  refine VD.q rfl (q_field fa308_3 rfl) (by decide) ?_
  refine VD.q rfl (q_fe one3 rfl rfl) (by decide) ?_
  refine VD.q rfl (q_move rfl) (by decide) ?_
  refine VD.part (s := bv) rfl ((i).toNat) ((i').toNat) Tryz.underlying82 sz9 rfl rfl rfl rfl (by show i = _; omega) (by show i' = _; omega) (.inl rfl) (fun h => by cases h) (by omega) (by omega) (by decide) (fun s44 _ hs44 => ?_)
  refine VD.q rfl (q_move rfl) (by decide) ?_
  refine VD.q rfl (q_nilCheck rfl) (by decide) ?_
  refine VD.q rfl (q_field fa308_1 rfl) (by decide) ?_
  refine VD.q rfl (q_fe one82 rfl rfl) (by decide) ?_
  refine VD.q rfl (q_move rfl) (by decide) ?_
  refine VD.q rfl (q_nilCheck rfl) (by decide) ?_
  refine VD.q rfl (q_field fa308_4 rfl) (by decide) ?_
  refine VD.q rfl (q_fe one3 rfl rfl) (by decide) ?_
  refine VD.q rfl (q_move rfl) (by decide) ?_
  refine VD.part (s := ov) rfl ((j).toNat) ((j').toNat) Tryz.underlying82 sz9 rfl rfl rfl rfl (by show j = _; omega) (by show j' = _; omega) (.inl rfl) (fun h => by cases h) (by omega) (by omega) (by decide) (fun s54 _ hs54 => ?_)
  refine VD.q rfl (q_move rfl) (by decide) ?_
  refine VD.q rfl (q_nilCheck rfl) (by decide) ?_
  refine VD.q rfl (q_field fa308_2 rfl) (by decide) ?_
  refine VD.q rfl (q_fe one82 rfl rfl) (by decide) ?_
  refine VD.q rfl (q_move rfl) (by decide) ?_
  refine VD.q rfl (q_nilCheck rfl) (by decide) ?_
  refine VD.q rfl (q_field fa308_5 rfl) (by decide) ?_
  refine VD.q rfl (q_fe one3 rfl rfl) (by decide) ?_
  refine VD.q rfl (q_move rfl) (by decide) ?_
  refine VD.part (s := tv) rfl ((k).toNat) ((k').toNat) Tryz.underlying82 sz9 rfl rfl rfl rfl (by show k = _; omega) (by show k' = _; omega) (.inl rfl) (fun h => by cases h) (by omega) (by omega) (by decide) (fun s64 _ hs64 => ?_)
  refine VD.one rfl ?_
  refine VL.callF (gap_ct s44 s54 s64 (by rw [hs44]; simp; omega) (by rw [hs54]; simp; omega) (by rw [hs64]; simp; omega)) rfl (by decide) ?_
  rintro x hx
  refine VL.back (D' := [(4, out.val), (3, ptr p 6), (2, ptr p 0)]) (by kernel_rfl) (Pend.cons rfl (q_fe one253 rfl rfl) (Pend.cons rfl (q_field fa308_6 rfl) (Pend.cons rfl (q_nilCheck rfl) (Pend.nil)))) ?_
  refine VD.one rfl ?_
  refine VL.lit (α := Ck) (xs := [.tmp 65]) (vs := [.agg #[x.base.val, x.ours.val, x.theirs.val, .bool x.clash, x.out.val]]) [x] Tryz.underlying253 lit261 (by decide) rfl rfl rfl rfl (by decide) (fun h m z hz => by cases List.mem_singleton.1 hz; exact InM.out (X := x.m) h m) (by decide) (fun s66 hs66 => ?_) (by decide)
  refine VL.back (D' := [(4, out.val), (3, ptr p 6), (2, ptr p 0)]) (by kernel_rfl) (Pend.cons rfl (q_fe one253 rfl rfl) (Pend.cons rfl (q_field fa308_6 rfl) (Pend.cons rfl (q_nilCheck rfl) (Pend.nil)))) ?_
  refine VD.one rfl ?_
  refine VL.app (s := out) (r := s66) Tryz.underlying253 app261 (by decide) rfl Fo.out (by rw [hs66]; simp; omega) (by rw [hs66]; simp; omega) (by decide) (fun s67 hs67 => ?_)
  refine VL.back (D' := []) (by kernel_rfl) (Pend.nil) ?_
  refine VD.q rfl (q_nilCheck rfl) (by decide) ?_
  refine VD.q rfl (q_field fa308_6 rfl) (by decide) ?_
  refine VD.one rfl ?_
  refine VL.store (vc := [s67.val]) (cs' := [bv.val, ov.val, tv.val, i64 i, i64 j, i64 k, s67.val, .bool op]) rfl rfl rfl sz253 rfl rfl (Nat.le_of_ble_eq_true rfl) rfl ?_
  refine VL.back (D' := []) (by kernel_rfl) (Pend.nil) ?_
  refine VD.to (fun _ _ h => h) ?_
  refine Zr ?_
  refine Zm ?_
  refine VL.q (q_nilCheck rfl) (by decide) ?_
  refine VL.q (q_field fa308_7 rfl) (by decide) ?_
  refine VL.store (vc := [.bool false]) (cs' := [bv.val, ov.val, tv.val, i64 i, i64 j, i64 k, s67.val, .bool false]) rfl rfl rfl sz4 rfl rfl (Nat.le_of_ble_eq_true rfl) rfl ?_
  refine Zl ?_
  refine Zr ?_
  refine Zm ?_
  refine Zm ?_
  refine Zm ?_
  refine Zm ?_
  refine Zm ?_
  refine Zm ?_
  refine VL.q (q_nilCheck rfl) (by decide) ?_
  refine VL.q (q_field fa308_3 rfl) (by decide) ?_
  refine VL.store (vc := [i64 i']) (cs' := [bv.val, ov.val, tv.val, i64 i', i64 j, i64 k, s67.val, .bool false]) rfl rfl rfl sz3 rfl rfl (Nat.le_of_ble_eq_true rfl) rfl ?_
  refine VL.q (q_nilCheck rfl) (by decide) ?_
  refine VL.q (q_field fa308_4 rfl) (by decide) ?_
  refine VL.store (vc := [i64 j']) (cs' := [bv.val, ov.val, tv.val, i64 i', i64 j', i64 k, s67.val, .bool false]) rfl rfl rfl sz3 rfl rfl (Nat.le_of_ble_eq_true rfl) rfl ?_
  refine VL.q (q_nilCheck rfl) (by decide) ?_
  refine VL.q (q_field fa308_5 rfl) (by decide) ?_
  refine VL.store (vc := [i64 k']) (cs' := [bv.val, ov.val, tv.val, i64 i', i64 j', i64 k', s67.val, .bool false]) rfl rfl rfl sz3 rfl rfl (Nat.le_of_ble_eq_true rfl) rfl ?_
  exact VL.nil (fin0I (.inl rfl) rfl (s67, x) rfl (⟨by rw [hs67, hs66], by rw [hx, hs44, hs54, hs64]⟩) EntO.out)
 refine Zg ?_
 refine Zg ?_
 refine VL.gy rfl rfl (q_nilCheck rfl) (by decide) ?_
 refine VL.gy rfl rfl (q_field fa308_4 rfl) (by decide) ?_
 refine VL.gy rfl rfl (q_fe one3 rfl rfl) (by decide) ?_
 refine VL.gy rfl rfl (q_gtr rfl rfl) (by decide) ?_
 refine Zf ?_
 refine Zm ?_
 refine VL.split_dec 22 rfl (fun h22 => ?_) (fun h22 => ?_)
 ·
  refine Zn ?_
  refine Zn ?_
  refine Zn ?_
  refine Zn ?_
  refine Zn ?_
  refine Zn ?_
  refine Zt ?_
  refine Zl ?_
  refine VC.cond_t rfl ?_
  refine Zq ?_
  refine VC.draw [(0, true), (1, true), (2, true), (3, true), (4, true), (5, true), (6, true), (7, true), (8, true), (9, true), (10, true), (11, true), (12, true), (13, true), (14, true), (15, true), (16, true), (17, true), (18, true), (19, true), (20, true), (21, true), (22, true), (23, true), (24, true), (25, true), (26, true), (27, true), (28, true), (29, true), (30, true), (31, true), (32, true), (33, true), (34, true), (35, false), (36, false), (37, false), (38, true), (39, true), (40, false)] mixed (by kernel_rfl) (by kernel_rfl) (by kernel_rfl) ?_
  refine VD.q rfl (q_move rfl) (by decide) ?_
  refine VD.q rfl (q_move rfl) (by decide) ?_
  refine VD.q rfl (q_nilCheck rfl) (by decide) ?_
  refine VD.q rfl (q_field fa308_6 rfl) (by decide) ?_
  refine VD.q rfl (q_fe one253 rfl rfl) (by decide) ?_
  refine VD.q rfl (q_move rfl) (by decide) ?_
  refine VD.q rfl (q_nilCheck rfl) (by decide) ?_
  refine VD.q rfl (q_field fa308_0 rfl) (by decide) ?_
  refine VD.q rfl (q_fe one82 rfl rfl) (by decide) ?_
  refine VD.q rfl (q_move rfl) (by decide) ?_
  refine VD.q rfl (q_nilCheck rfl) (by decide) ?_
  refine VD.q rfl (q_field fa308_3 rfl) (by decide) ?_
  refine VD.q rfl (q_fe one3 rfl rfl) (by decide) ?_
  refine VD.q rfl (q_move rfl) (by decide) ?_
  refine VD.part (s := bv) rfl ((i).toNat) ((i').toNat) Tryz.underlying82 sz9 rfl rfl rfl rfl (by show i = _; omega) (by show i' = _; omega) (.inl rfl) (fun h => by cases h) (by omega) (by omega) (by decide) (fun s44 _ hs44 => ?_)
  refine VD.q rfl (q_move rfl) (by decide) ?_
  refine VD.q rfl (q_nilCheck rfl) (by decide) ?_
  refine VD.q rfl (q_field fa308_1 rfl) (by decide) ?_
  refine VD.q rfl (q_fe one82 rfl rfl) (by decide) ?_
  refine VD.q rfl (q_move rfl) (by decide) ?_
  refine VD.q rfl (q_nilCheck rfl) (by decide) ?_
  refine VD.q rfl (q_field fa308_4 rfl) (by decide) ?_
  refine VD.q rfl (q_fe one3 rfl rfl) (by decide) ?_
  refine VD.q rfl (q_move rfl) (by decide) ?_
  refine VD.part (s := ov) rfl ((j).toNat) ((j').toNat) Tryz.underlying82 sz9 rfl rfl rfl rfl (by show j = _; omega) (by show j' = _; omega) (.inl rfl) (fun h => by cases h) (by omega) (by omega) (by decide) (fun s54 _ hs54 => ?_)
  refine VD.q rfl (q_move rfl) (by decide) ?_
  refine VD.q rfl (q_nilCheck rfl) (by decide) ?_
  refine VD.q rfl (q_field fa308_2 rfl) (by decide) ?_
  refine VD.q rfl (q_fe one82 rfl rfl) (by decide) ?_
  refine VD.q rfl (q_move rfl) (by decide) ?_
  refine VD.q rfl (q_nilCheck rfl) (by decide) ?_
  refine VD.q rfl (q_field fa308_5 rfl) (by decide) ?_
  refine VD.q rfl (q_fe one3 rfl rfl) (by decide) ?_
  refine VD.q rfl (q_move rfl) (by decide) ?_
  refine VD.part (s := tv) rfl ((k).toNat) ((k').toNat) Tryz.underlying82 sz9 rfl rfl rfl rfl (by show k = _; omega) (by show k' = _; omega) (.inl rfl) (fun h => by cases h) (by omega) (by omega) (by decide) (fun s64 _ hs64 => ?_)
  refine VD.one rfl ?_
  refine VL.callF (gap_ct s44 s54 s64 (by rw [hs44]; simp; omega) (by rw [hs54]; simp; omega) (by rw [hs64]; simp; omega)) rfl (by decide) ?_
  rintro x hx
  refine VL.back (D' := [(4, out.val), (3, ptr p 6), (2, ptr p 0)]) (by kernel_rfl) (Pend.cons rfl (q_fe one253 rfl rfl) (Pend.cons rfl (q_field fa308_6 rfl) (Pend.cons rfl (q_nilCheck rfl) (Pend.nil)))) ?_
  refine VD.one rfl ?_
  refine VL.lit (α := Ck) (xs := [.tmp 65]) (vs := [.agg #[x.base.val, x.ours.val, x.theirs.val, .bool x.clash, x.out.val]]) [x] Tryz.underlying253 lit261 (by decide) rfl rfl rfl rfl (by decide) (fun h m z hz => by cases List.mem_singleton.1 hz; exact InM.out (X := x.m) h m) (by decide) (fun s66 hs66 => ?_) (by decide)
  refine VL.back (D' := [(4, out.val), (3, ptr p 6), (2, ptr p 0)]) (by kernel_rfl) (Pend.cons rfl (q_fe one253 rfl rfl) (Pend.cons rfl (q_field fa308_6 rfl) (Pend.cons rfl (q_nilCheck rfl) (Pend.nil)))) ?_
  refine VD.one rfl ?_
  refine VL.app (s := out) (r := s66) Tryz.underlying253 app261 (by decide) rfl Fo.out (by rw [hs66]; simp; omega) (by rw [hs66]; simp; omega) (by decide) (fun s67 hs67 => ?_)
  refine VL.back (D' := []) (by kernel_rfl) (Pend.nil) ?_
  refine VD.q rfl (q_nilCheck rfl) (by decide) ?_
  refine VD.q rfl (q_field fa308_6 rfl) (by decide) ?_
  refine VD.one rfl ?_
  refine VL.store (vc := [s67.val]) (cs' := [bv.val, ov.val, tv.val, i64 i, i64 j, i64 k, s67.val, .bool op]) rfl rfl rfl sz253 rfl rfl (Nat.le_of_ble_eq_true rfl) rfl ?_
  refine VL.back (D' := []) (by kernel_rfl) (Pend.nil) ?_
  refine VD.to (fun _ _ h => h) ?_
  refine Zr ?_
  refine Zm ?_
  refine VL.q (q_nilCheck rfl) (by decide) ?_
  refine VL.q (q_field fa308_7 rfl) (by decide) ?_
  refine VL.store (vc := [.bool false]) (cs' := [bv.val, ov.val, tv.val, i64 i, i64 j, i64 k, s67.val, .bool false]) rfl rfl rfl sz4 rfl rfl (Nat.le_of_ble_eq_true rfl) rfl ?_
  refine Zl ?_
  refine Zr ?_
  refine Zm ?_
  refine Zm ?_
  refine Zm ?_
  refine Zm ?_
  refine Zm ?_
  refine Zm ?_
  refine VL.q (q_nilCheck rfl) (by decide) ?_
  refine VL.q (q_field fa308_3 rfl) (by decide) ?_
  refine VL.store (vc := [i64 i']) (cs' := [bv.val, ov.val, tv.val, i64 i', i64 j, i64 k, s67.val, .bool false]) rfl rfl rfl sz3 rfl rfl (Nat.le_of_ble_eq_true rfl) rfl ?_
  refine VL.q (q_nilCheck rfl) (by decide) ?_
  refine VL.q (q_field fa308_4 rfl) (by decide) ?_
  refine VL.store (vc := [i64 j']) (cs' := [bv.val, ov.val, tv.val, i64 i', i64 j', i64 k, s67.val, .bool false]) rfl rfl rfl sz3 rfl rfl (Nat.le_of_ble_eq_true rfl) rfl ?_
  refine VL.q (q_nilCheck rfl) (by decide) ?_
  refine VL.q (q_field fa308_5 rfl) (by decide) ?_
  refine VL.store (vc := [i64 k']) (cs' := [bv.val, ov.val, tv.val, i64 i', i64 j', i64 k', s67.val, .bool false]) rfl rfl rfl sz3 rfl rfl (Nat.le_of_ble_eq_true rfl) rfl ?_
  exact VL.nil (fin0I (.inl rfl) rfl (s67, x) rfl (⟨by rw [hs67, hs66], by rw [hx, hs44, hs54, hs64]⟩) EntO.out)
 refine Zg ?_
 refine Zg ?_
 refine VL.gy rfl rfl (q_nilCheck rfl) (by decide) ?_
 refine VL.gy rfl rfl (q_field fa308_5 rfl) (by decide) ?_
 refine VL.gy rfl rfl (q_fe one3 rfl rfl) (by decide) ?_
 refine VL.gy rfl rfl (q_gtr rfl rfl) (by decide) ?_
 refine Zf ?_
 refine Zl ?_
 refine VC.cond_dec rfl (fun h29 => ?_) (fun h29 => ?_)
 ·
  refine Zq ?_
  refine VC.draw [(0, true), (1, true), (2, true), (3, true), (4, true), (5, true), (6, true), (7, true), (8, true), (9, true), (10, true), (11, true), (12, true), (13, true), (14, true), (15, true), (16, true), (17, true), (18, true), (19, true), (20, true), (21, true), (22, true), (23, true), (24, true), (25, true), (26, true), (27, true), (28, true), (29, true), (30, true), (31, true), (32, true), (33, true), (34, true), (35, false), (36, false), (37, false), (38, true), (39, true), (40, false)] mixed (by kernel_rfl) (by kernel_rfl) (by kernel_rfl) ?_
  refine VD.q rfl (q_move rfl) (by decide) ?_
  refine VD.q rfl (q_move rfl) (by decide) ?_
  refine VD.q rfl (q_nilCheck rfl) (by decide) ?_
  refine VD.q rfl (q_field fa308_6 rfl) (by decide) ?_
  refine VD.q rfl (q_fe one253 rfl rfl) (by decide) ?_
  refine VD.q rfl (q_move rfl) (by decide) ?_
  refine VD.q rfl (q_nilCheck rfl) (by decide) ?_
  refine VD.q rfl (q_field fa308_0 rfl) (by decide) ?_
  refine VD.q rfl (q_fe one82 rfl rfl) (by decide) ?_
  refine VD.q rfl (q_move rfl) (by decide) ?_
  refine VD.q rfl (q_nilCheck rfl) (by decide) ?_
  refine VD.q rfl (q_field fa308_3 rfl) (by decide) ?_
  refine VD.q rfl (q_fe one3 rfl rfl) (by decide) ?_
  refine VD.q rfl (q_move rfl) (by decide) ?_
  refine VD.part (s := bv) rfl ((i).toNat) ((i').toNat) Tryz.underlying82 sz9 rfl rfl rfl rfl (by show i = _; omega) (by show i' = _; omega) (.inl rfl) (fun h => by cases h) (by omega) (by omega) (by decide) (fun s44 _ hs44 => ?_)
  refine VD.q rfl (q_move rfl) (by decide) ?_
  refine VD.q rfl (q_nilCheck rfl) (by decide) ?_
  refine VD.q rfl (q_field fa308_1 rfl) (by decide) ?_
  refine VD.q rfl (q_fe one82 rfl rfl) (by decide) ?_
  refine VD.q rfl (q_move rfl) (by decide) ?_
  refine VD.q rfl (q_nilCheck rfl) (by decide) ?_
  refine VD.q rfl (q_field fa308_4 rfl) (by decide) ?_
  refine VD.q rfl (q_fe one3 rfl rfl) (by decide) ?_
  refine VD.q rfl (q_move rfl) (by decide) ?_
  refine VD.part (s := ov) rfl ((j).toNat) ((j').toNat) Tryz.underlying82 sz9 rfl rfl rfl rfl (by show j = _; omega) (by show j' = _; omega) (.inl rfl) (fun h => by cases h) (by omega) (by omega) (by decide) (fun s54 _ hs54 => ?_)
  refine VD.q rfl (q_move rfl) (by decide) ?_
  refine VD.q rfl (q_nilCheck rfl) (by decide) ?_
  refine VD.q rfl (q_field fa308_2 rfl) (by decide) ?_
  refine VD.q rfl (q_fe one82 rfl rfl) (by decide) ?_
  refine VD.q rfl (q_move rfl) (by decide) ?_
  refine VD.q rfl (q_nilCheck rfl) (by decide) ?_
  refine VD.q rfl (q_field fa308_5 rfl) (by decide) ?_
  refine VD.q rfl (q_fe one3 rfl rfl) (by decide) ?_
  refine VD.q rfl (q_move rfl) (by decide) ?_
  refine VD.part (s := tv) rfl ((k).toNat) ((k').toNat) Tryz.underlying82 sz9 rfl rfl rfl rfl (by show k = _; omega) (by show k' = _; omega) (.inl rfl) (fun h => by cases h) (by omega) (by omega) (by decide) (fun s64 _ hs64 => ?_)
  refine VD.one rfl ?_
  refine VL.callF (gap_ct s44 s54 s64 (by rw [hs44]; simp; omega) (by rw [hs54]; simp; omega) (by rw [hs64]; simp; omega)) rfl (by decide) ?_
  rintro x hx
  refine VL.back (D' := [(4, out.val), (3, ptr p 6), (2, ptr p 0)]) (by kernel_rfl) (Pend.cons rfl (q_fe one253 rfl rfl) (Pend.cons rfl (q_field fa308_6 rfl) (Pend.cons rfl (q_nilCheck rfl) (Pend.nil)))) ?_
  refine VD.one rfl ?_
  refine VL.lit (α := Ck) (xs := [.tmp 65]) (vs := [.agg #[x.base.val, x.ours.val, x.theirs.val, .bool x.clash, x.out.val]]) [x] Tryz.underlying253 lit261 (by decide) rfl rfl rfl rfl (by decide) (fun h m z hz => by cases List.mem_singleton.1 hz; exact InM.out (X := x.m) h m) (by decide) (fun s66 hs66 => ?_) (by decide)
  refine VL.back (D' := [(4, out.val), (3, ptr p 6), (2, ptr p 0)]) (by kernel_rfl) (Pend.cons rfl (q_fe one253 rfl rfl) (Pend.cons rfl (q_field fa308_6 rfl) (Pend.cons rfl (q_nilCheck rfl) (Pend.nil)))) ?_
  refine VD.one rfl ?_
  refine VL.app (s := out) (r := s66) Tryz.underlying253 app261 (by decide) rfl Fo.out (by rw [hs66]; simp; omega) (by rw [hs66]; simp; omega) (by decide) (fun s67 hs67 => ?_)
  refine VL.back (D' := []) (by kernel_rfl) (Pend.nil) ?_
  refine VD.q rfl (q_nilCheck rfl) (by decide) ?_
  refine VD.q rfl (q_field fa308_6 rfl) (by decide) ?_
  refine VD.one rfl ?_
  refine VL.store (vc := [s67.val]) (cs' := [bv.val, ov.val, tv.val, i64 i, i64 j, i64 k, s67.val, .bool op]) rfl rfl rfl sz253 rfl rfl (Nat.le_of_ble_eq_true rfl) rfl ?_
  refine VL.back (D' := []) (by kernel_rfl) (Pend.nil) ?_
  refine VD.to (fun _ _ h => h) ?_
  refine Zr ?_
  refine Zm ?_
  refine VL.q (q_nilCheck rfl) (by decide) ?_
  refine VL.q (q_field fa308_7 rfl) (by decide) ?_
  refine VL.store (vc := [.bool false]) (cs' := [bv.val, ov.val, tv.val, i64 i, i64 j, i64 k, s67.val, .bool false]) rfl rfl rfl sz4 rfl rfl (Nat.le_of_ble_eq_true rfl) rfl ?_
  refine Zl ?_
  refine Zr ?_
  refine Zm ?_
  refine Zm ?_
  refine Zm ?_
  refine Zm ?_
  refine Zm ?_
  refine Zm ?_
  refine VL.q (q_nilCheck rfl) (by decide) ?_
  refine VL.q (q_field fa308_3 rfl) (by decide) ?_
  refine VL.store (vc := [i64 i']) (cs' := [bv.val, ov.val, tv.val, i64 i', i64 j, i64 k, s67.val, .bool false]) rfl rfl rfl sz3 rfl rfl (Nat.le_of_ble_eq_true rfl) rfl ?_
  refine VL.q (q_nilCheck rfl) (by decide) ?_
  refine VL.q (q_field fa308_4 rfl) (by decide) ?_
  refine VL.store (vc := [i64 j']) (cs' := [bv.val, ov.val, tv.val, i64 i', i64 j', i64 k, s67.val, .bool false]) rfl rfl rfl sz3 rfl rfl (Nat.le_of_ble_eq_true rfl) rfl ?_
  refine VL.q (q_nilCheck rfl) (by decide) ?_
  refine VL.q (q_field fa308_5 rfl) (by decide) ?_
  refine VL.store (vc := [i64 k']) (cs' := [bv.val, ov.val, tv.val, i64 i', i64 j', i64 k', s67.val, .bool false]) rfl rfl rfl sz3 rfl rfl (Nat.le_of_ble_eq_true rfl) rfl ?_
  exact VL.nil (fin0I (.inl rfl) rfl (s67, x) rfl (⟨by rw [hs67, hs66], by rw [hx, hs44, hs54, hs64]⟩) EntO.out)
 exact absurd hput (by omega)
end Go.Proofs.YtleokmhhloamaaaGreatDoor
end

section
namespace Go.Proofs.YtleokmhhloamaaaGreatDoor
open Go.RowKit Go.V
open Go.P hiding Str
set_option maxHeartbeats 8000000 in
 set_option maxRecDepth 100000 in
 theorem upto_none (p : Nat) (bv ov tv : Sv Str) (out : Sv Ck) (op : Bool) (i j k i' j' k' : Int) (hi : ¬ i < i') (hj : ¬ j < j') (hk : ¬ k < k') :
 Ct Tryz.prog 225 [ptr p 0, i64 i', i64 j', i64 k'] Mo.tt (Blk p [bv.val, ov.val, tv.val, i64 i, i64 j, i64 k, out.val, .bool op] 308) (X := Unit) (fun _ => .tuple #[]) (fun _ => True) (fun _ => Mo.tt) (fun _ => Blk p [bv.val, ov.val, tv.val, i64 i', i64 j', i64 k', out.val, .bool op] 308) := by
 refine Ct.of Tryz.func225 rfl (by kernel_rfl) Tryz.ntmps225 (by simp) fun c => ?_
 refine Zq (Zq (Zr ?_))
 refine Zm ?_
 refine Zm ?_
 refine VL.q (q_nilCheck rfl) (by decide) ?_
 refine VL.q (q_field fa308_3 rfl) (by decide) ?_
 refine VL.q (q_fe one3 rfl rfl) (by decide) ?_
 refine VL.q (q_gtr rfl rfl) (by decide) ?_
 refine Zm ?_
 refine VL.split_dec 14 rfl (fun h14 => ?_) (fun h14 => ?_)
 ·
  exact absurd h14 hi
 refine Zg ?_
 refine Zg ?_
 refine VL.gy rfl rfl (q_nilCheck rfl) (by decide) ?_
 refine VL.gy rfl rfl (q_field fa308_4 rfl) (by decide) ?_
 refine VL.gy rfl rfl (q_fe one3 rfl rfl) (by decide) ?_
 refine VL.gy rfl rfl (q_gtr rfl rfl) (by decide) ?_
 refine Zf ?_
 refine Zm ?_
 refine VL.split_dec 22 rfl (fun h22 => ?_) (fun h22 => ?_)
 ·
  exact absurd h22 hj
 refine Zg ?_
 refine Zg ?_
 refine VL.gy rfl rfl (q_nilCheck rfl) (by decide) ?_
 refine VL.gy rfl rfl (q_field fa308_5 rfl) (by decide) ?_
 refine VL.gy rfl rfl (q_fe one3 rfl rfl) (by decide) ?_
 refine VL.gy rfl rfl (q_gtr rfl rfl) (by decide) ?_
 refine Zf ?_
 refine Zl ?_
 refine VC.cond_dec rfl (fun h29 => ?_) (fun h29 => ?_)
 ·
  exact absurd h29 hk
 refine Zk ?_
 refine Zr ?_
 refine Zm ?_
 refine Zm ?_
 refine Zm ?_
 refine Zm ?_
 refine Zm ?_
 refine Zm ?_
 refine VL.q (q_nilCheck rfl) (by decide) ?_
 refine VL.q (q_field fa308_3 rfl) (by decide) ?_
 refine VL.store (vc := [i64 i']) (cs' := [bv.val, ov.val, tv.val, i64 i', i64 j, i64 k, out.val, .bool op]) rfl rfl rfl sz3 rfl rfl (Nat.le_of_ble_eq_true rfl) rfl ?_
 refine VL.q (q_nilCheck rfl) (by decide) ?_
 refine VL.q (q_field fa308_4 rfl) (by decide) ?_
 refine VL.store (vc := [i64 j']) (cs' := [bv.val, ov.val, tv.val, i64 i', i64 j', i64 k, out.val, .bool op]) rfl rfl rfl sz3 rfl rfl (Nat.le_of_ble_eq_true rfl) rfl ?_
 refine VL.q (q_nilCheck rfl) (by decide) ?_
 refine VL.q (q_field fa308_5 rfl) (by decide) ?_
 refine VL.store (vc := [i64 k']) (cs' := [bv.val, ov.val, tv.val, i64 i', i64 j', i64 k', out.val, .bool op]) rfl rfl rfl sz3 rfl rfl (Nat.le_of_ble_eq_true rfl) rfl ?_
 exact VL.nil (fin0I (.inl rfl) rfl () rfl (trivial) EntO.out)
end Go.Proofs.YtleokmhhloamaaaGreatDoor
end
