/- Part of the proofs of: Any three trees merged: each path, what clashes, with its stages; or why not, as the document says. -/
import Derived.Shelf.Bits.Mul64
import Derived.Test.YtleokmhhloamaaaGreatDoorProg
import Derived.Test.YtleokmhhloamaaaGreatDoorMA
set_option linter.unusedVariables false
set_option linter.unusedSimpArgs false
set_option linter.unusedSectionVars false
section
namespace Go.Proofs.YtleokmhhloamaaaGreatDoor
open Go.RowKit Go.V
open Go.P hiding Str
theorem fa386_2 : FieldAt Tryz.prog 386 2 2 := fieldAt_sz (n := 0) (f := ⟨_, _, 2, _, _, _, _⟩) Tryz.underlying386 rfl (by kernel_rfl)
theorem one26 : OneCell Tryz.prog 26 := oneCell_of Tryz.underlying26 rfl
theorem fa386_1 : FieldAt Tryz.prog 386 1 1 := fieldAt_sz (n := 0) (f := ⟨_, _, 1, _, _, _, _⟩) Tryz.underlying386 rfl (by kernel_rfl)
theorem one82 : OneCell Tryz.prog 82 := oneCell_of Tryz.underlying82 rfl
theorem sz3 : (Tryz.prog.info? 3).map (·.size) = some 1 := by kernel_rfl
theorem one3 : OneCell Tryz.prog 3 := oneCell_of Tryz.underlying3 rfl
theorem mk3 : ((Tryz.prog.info? 3).map fun i => (i.size, i.bytes, i.zero.map fun z => z.cells.toList)) = some (1, 8, some [i64 0]) := by kernel_rfl
set_option maxRecDepth 100000 in
 theorem at_ct (b0 : Nat) (a b : Sv Str) (n : Sv Int) (i j z : Int) (h0 : 0 ≤ i) (h1 : i ≤ 256) (hb : b.l.length ≤ 256) (hj : 0 ≤ j) (hj1 : j ≤ 256) (hz : n.l[i.toNat * (b.l.length + 1) + j.toNat]? = some z) :
 Ct Tryz.prog 307 [ptr b0 0, i64 i, i64 j] ((Cells b0 0 [a.val, b.val, n.val]).and n.ok) Ow.emp (X := Unit) (fun _ => i64 z) (fun _ => True) (fun _ => Mo.tt) (fun _ => Ow.emp) := by
 obtain ⟨m1, m2, m3⟩ := idx_nat (m := b.l.length) h0 h1 (by omega) (by omega) hj
 simp only [Int.toNat_natCast] at m3
 have hlt := (List.getElem?_eq_some_iff.1 hz).1
 rw [← m3] at hlt hz
 refine Zo Tryz.func307 Tryz.ntmps307 fun c => ?_
 refine Zq (Zr ?_)
 refine Zy ?_
 refine Zq ?_
 refine VC.draw ((List.range 17).map fun k => (k, true)) mixed (by kernel_rfl) (by kernel_rfl) (by kernel_rfl) ?_
 refine Zw rfl (q_move rfl) ?_
 refine Zw rfl (q_nilCheck rfl) ?_
 refine Zw rfl (q_field fa386_2 rfl) ?_
 refine Zw rfl (q_fm one26 rfl rfl) ?_
 refine Zw rfl (q_move rfl) ?_
 refine Zw rfl (q_move rfl) ?_
 refine Zw rfl (q_nilCheck rfl) ?_
 refine Zw rfl (q_field fa386_1 rfl) ?_
 refine Zw rfl (q_fm one82 rfl rfl) ?_
 refine Zw rfl (q_ln (s := b) Tryz.underlying82 rfl) ?_
 refine Zw rfl (q_add rfl rfl ⟨by omega, by omega⟩) ?_
 refine Zw rfl (q_mul rfl rfl ⟨by omega, by omega⟩) ?_
 refine Zw rfl (q_move rfl) ?_
 refine Zw rfl (q_add rfl rfl ⟨by omega, by omega⟩) ?_
 have hz21 := hz
 refine Zw rfl (q_ixm (s := n) Tryz.underlying26 sz3 rfl rfl (by omega) (by omega)) ?_
 refine Zw rfl (q_el (s := n) one3 rfl hz rfl) ?_
 refine Zw rfl (q_assign rfl) ?_
 refine VD.to (fun _ _ h => h) ?_
 exact VC.ret (fin1I (.inr rfl) rfl rfl () rfl (trivial) (fun _ _ => trivial))
set_option maxRecDepth 100000 in
 theorem made_ct (a b : Sv Str) (ha : a.l.length ≤ 256) (hb : b.l.length ≤ 256) :
 Ct Tryz.prog 297 [a.val, b.val] (a.ok.and b.ok) Ow.emp (X := Nat × Sv Int) (fun x => .tuple #[ptr x.1 0, .nilIface]) (fun x => Tab a.l b.l x.2.l (fun _ _ => True)) (fun x => (Cells x.1 0 [a.val, b.val, x.2.val]).and x.2.ok) (fun _ => Ow.emp) := by
 refine Zo Tryz.func297 Tryz.ntmps297 fun c => ?_
 refine Zq (Zr ?_)
 refine Zy ?_
 refine Zq (Zq (Zr ?_))
 refine Zm ?_
 refine Zu (q_ln (s := a) Tryz.underlying82 rfl) ?_
 refine Zu (q_gtr rfl rfl) ?_
 refine Zl ?_
 refine VC.cond_dec rfl (fun h12 => ?_) (fun h12 => ?_)
 ·
  exact absurd h12 (by omega)
 refine Zk ?_
 refine Zq (Zq (Zr ?_))
 refine Zm ?_
 refine Zu (q_ln (s := b) Tryz.underlying82 rfl) ?_
 refine Zu (q_gtr rfl rfl) ?_
 refine Zl ?_
 refine VC.cond_dec rfl (fun h19 => ?_) (fun h19 => ?_)
 ·
  exact absurd h19 (by omega)
 refine Zk ?_
 refine Zq ?_
 obtain ⟨m1, m2, m3⟩ := idx_nat (i := (a.l.length : Int)) (m := b.l.length) (j := 0) (by omega) (by omega) (by omega) (by omega) (by omega)
 have m4 : ((a.l.length : Int) + 1) * ((b.l.length : Int) + 1) = a.l.length * ((b.l.length : Int) + 1) + (b.l.length + 1) := by rw [Int.add_mul, Int.one_mul]
 refine Zr ?_
 refine Zy ?_
 refine Zu (q_ln (s := a) Tryz.underlying82 rfl) ?_
 refine Zu (q_add rfl rfl ⟨by omega, by omega⟩) ?_
 refine Zm ?_
 refine Zu (q_ln (s := b) Tryz.underlying82 rfl) ?_
 refine Zu (q_add rfl rfl ⟨by omega, by omega⟩) ?_
 refine Zu (q_mul rfl rfl ⟨by omega, by omega⟩) ?_
 refine VL.make (α := Int) (z := 0) Tryz.underlying26 mk3 (by decide) rfl rfl (by omega) (by omega) (by omega) (by omega) (by decide) (fun s33 hs33 => ?_)
 refine Zu (q_build (vs := [(0, a.val), (1, b.val), (2, s33.val)]) (cs := #[a.val, b.val, s33.val]) rfl (by kernel_rfl)) ?_
 refine VL.box (cs := [a.val, b.val, s33.val]) rfl rfl (by decide) fun b35 => ?_
 refine Zy ?_
 refine Zq (Zq (Zr ?_))
 refine Zm ?_
 refine Zu (q_ln (s := a) Tryz.underlying82 rfl) ?_
 refine Zu (q_sub rfl rfl ⟨by omega, by omega⟩) ?_
 refine Zy ?_
 refine Zb ?_
 refine VC.loopK (S := Int × Sv Int) (fun sg => -1 ≤ sg.1 ∧ sg.1 < a.l.length ∧ Tab a.l b.l sg.2.l (fun x y => sg.1 < x ∨ x = a.l.length ∨ y = b.l.length)) (fun sg => [(0, a.val), (1, b.val), (4, .pointer none), (5, .nilIface), (6, ptr b35 0), (7, i64 sg.1)]) (fun sg => Ow.star (Blk b35 [a.val, b.val, sg.2.val] 386) (Ow.star (Sv.own sg.2 3) (Ow.emp))) (fun sg => (sg.1 + 1).toNat) (((a.l.length : Int) - 1), s33) [0, 1, 4, 5, 6, 7] (by (try dsimp only); exact ⟨by omega, by omega, P.made_init hs33⟩) rfl (by (try dsimp only); exact EntO.out) ?_
 rintro ⟨i, n⟩ hI
 show VC _ _ _ _ _ [(0, a.val), (1, b.val), (4, .pointer none), (5, .nilIface), (6, ptr b35 0), (7, i64 i)] _ (Ow.star (Blk b35 [a.val, b.val, n.val] 386) (Ow.star (Sv.own n 3) (Ow.emp)))
 try dsimp only at hI
 obtain ⟨h0, h1, hT⟩ := hI
 refine Zq (Zq (Zr ?_))
 refine Zm ?_
 refine Zu (q_geq rfl rfl) ?_
 refine Zl ?_
 refine VC.cond_dec rfl (fun h40 => ?_) (fun h40 => ?_)
 ·
  refine Zk ?_
  refine Zq (Zb (Zq (Zr ?_)))
  refine Zm ?_
  refine Zu (q_ln (s := b) Tryz.underlying82 rfl) ?_
  refine Zu (q_sub rfl rfl ⟨by omega, by omega⟩) ?_
  refine Zy ?_
  refine Zb ?_
  refine VC.loopK (S := Int × Sv Int) (fun sg => -1 ≤ sg.1 ∧ sg.1 < b.l.length ∧ Tab a.l b.l sg.2.l (fun x y => i < x ∨ x = a.l.length ∨ y = b.l.length ∨ (x = i ∧ sg.1 < y))) (fun sg => [(0, a.val), (1, b.val), (4, .pointer none), (5, .nilIface), (6, ptr b35 0), (7, i64 i), (8, i64 sg.1)]) (fun sg => Ow.star (Blk b35 [a.val, b.val, sg.2.val] 386) (Ow.star (Sv.own sg.2 3) (Ow.emp))) (fun sg => (sg.1 + 1).toNat) (((b.l.length : Int) - 1), n) [0, 1, 4, 5, 6, 7, 8] (by (try dsimp only); exact ⟨by omega, by omega, hT.sub fun x y _ _ h => by omega⟩) rfl (by (try dsimp only); exact EntO.out) ?_
  rintro ⟨j, n⟩ hI
  show VC _ _ _ _ _ [(0, a.val), (1, b.val), (4, .pointer none), (5, .nilIface), (6, ptr b35 0), (7, i64 i), (8, i64 j)] _ (Ow.star (Blk b35 [a.val, b.val, n.val] 386) (Ow.star (Sv.own n 3) (Ow.emp)))
  try dsimp only at hI
  obtain ⟨hj0, hj1, hT⟩ := hI
  refine Zq (Zq (Zr ?_))
  refine Zm ?_
  refine Zu (q_geq rfl rfl) ?_
  refine Zl ?_
  refine VC.cond_dec rfl (fun h47 => ?_) (fun h47 => ?_)
  ·
   refine Zk ?_
   refine Zq (Zb (Zq ?_))
   obtain ⟨m1, m2, m3⟩ := idx_nat (i := i) (m := b.l.length) (j := j) (by omega) (by omega) (by omega) (by omega) (by omega)
   have hin := tab_in hT (i := i) (j := j) (by omega) (by omega) ha hb (by omega) (by omega)
   refine Zr ?_
   refine Zy ?_
   refine Zu (q_add rfl rfl ⟨by omega, by omega⟩) ?_
   refine Zm ?_
   refine Zu (q_callR (at_ct b35 a b n (i + 1) j (lcs (a.l.drop (i + 1).toNat) (b.l.drop j.toNat) : Int) (by omega) (by omega) (by omega) (by omega) (by omega) (hT.2 _ _ (by omega) (by omega) (by omega))) rfl (fun _ _ => rfl)) ?_
   refine Zy ?_
   refine Zu (q_add rfl rfl ⟨by omega, by omega⟩) ?_
   refine Zu (q_callR (at_ct b35 a b n i (j + 1) (lcs (a.l.drop i.toNat) (b.l.drop (j + 1).toNat) : Int) (by omega) (by omega) (by omega) (by omega) (by omega) (hT.2 _ _ (by omega) (by omega) (by omega))) rfl (fun _ _ => rfl)) ?_
   refine Zu (q_max rfl) ?_
   refine Zy ?_
   refine Zq (Zq ?_)
   refine VC.draw ((List.range 9).map fun k => (k, true)) mixed (by kernel_rfl) (by kernel_rfl) (by kernel_rfl) ?_
   refine Zw rfl (q_move rfl) ?_
   refine Zw rfl (q_move rfl) ?_
   obtain ⟨z63, hz63⟩ : ∃ z, a.l[(i).toNat]? = some z := ⟨_, List.getElem?_eq_getElem (by omega)⟩
   refine Zw rfl (q_ixm (s := a) Tryz.underlying82 sz9 rfl rfl (by omega) (by omega)) ?_
   refine Zw rfl (q_el (s := a) one9 rfl hz63 rfl) ?_
   refine Zw rfl (q_move rfl) ?_
   refine Zw rfl (q_move rfl) ?_
   obtain ⟨z67, hz67⟩ : ∃ z, b.l[(j).toNat]? = some z := ⟨_, List.getElem?_eq_getElem (by omega)⟩
   refine Zw rfl (q_ixm (s := b) Tryz.underlying82 sz9 rfl rfl (by omega) (by omega)) ?_
   refine Zw rfl (q_el (s := b) one9 rfl hz67 rfl) ?_
   refine Zw rfl (q_seq rfl rfl) ?_
   refine VD.to (fun _ _ h => h) ?_
   refine VC.cond_dec rfl (fun h69 => ?_) (fun h69 => ?_)
   ·
    have hle := lcs_drop_le a.l b.l (i + 1).toNat (j + 1).toNat
    refine Zr ?_
    refine Zy ?_
    refine Zu (q_add rfl rfl ⟨by omega, by omega⟩) ?_
    refine Zm ?_
    refine Zu (q_add rfl rfl ⟨by omega, by omega⟩) ?_
    refine Zu (q_callR (at_ct b35 a b n (i + 1) (j + 1) (lcs (a.l.drop (i + 1).toNat) (b.l.drop (j + 1).toNat) : Int) (by omega) (by omega) (by omega) (by omega) (by omega) (hT.2 _ _ (by omega) (by omega) (by omega))) rfl (fun _ _ => rfl)) ?_
    refine Zu (q_add rfl rfl ⟨by omega, by omega⟩) ?_
    refine Zy ?_
    refine Zr ?_
    refine Zm ?_
    refine Zu (q_nilCheck rfl) ?_
    refine Zu (q_field fa386_2 rfl) ?_
    refine Zu (q_fe one26 rfl rfl) ?_
    refine Zy ?_
    refine Zu (q_ln (s := b) Tryz.underlying82 rfl) ?_
    refine Zu (q_add rfl rfl ⟨by omega, by omega⟩) ?_
    refine Zu (q_mul rfl rfl ⟨by omega, by omega⟩) ?_
    refine Zm ?_
    refine Zu (q_add rfl rfl ⟨by omega, by omega⟩) ?_
    refine Zm ?_
    obtain ⟨z89, hz89⟩ : ∃ z, n.l[(((i * ((b.l.length : Int) + 1)) + j)).toNat]? = some z := ⟨_, List.getElem?_eq_getElem (by omega)⟩
    refine Zu (q_ixo (s := n) Tryz.underlying26 sz3 rfl rfl (by omega) (by omega)) ?_
    refine VL.storeE (s := n) (T := 3) (j := 0) (vc := [i64 ((lcs (a.l.drop (i + 1).toNat) (b.l.drop (j + 1).toNat) : Int) + 1)]) (((lcs (a.l.drop (i + 1).toNat) (b.l.drop (j + 1).toNat) : Int) + 1) : Int) (by decide) rfl rfl hz89 rfl sz3 rfl rfl (Nat.le_of_ble_eq_true rfl) rfl (fun w0 hw0 haw0 hcw0 hvw0 hbw0 how0 => ?_)
    rw [← hvw0]
    refine Zl ?_
    refine Zr ?_
    refine Zm ?_
    refine Zu (q_sub rfl rfl ⟨by omega, by omega⟩) ?_
    refine Za ?_
    refine VL.anyI ((j - 1), w0) [0, 1, 4, 5, 6, 7, 8] (fun _ _ h => h) ?_ rfl (by (try dsimp only); exact EntO.out)
    try dsimp only
    exact ⟨⟨by omega, by omega, tab_step hT (by omega) (by omega) ha hb hz63 hz67 (by rw [if_pos h69]) hw0⟩, by omega⟩
   refine Zk ?_
   refine Zr ?_
   refine Zm ?_
   refine Zu (q_nilCheck rfl) ?_
   refine Zu (q_field fa386_2 rfl) ?_
   refine Zu (q_fe one26 rfl rfl) ?_
   refine Zy ?_
   refine Zu (q_ln (s := b) Tryz.underlying82 rfl) ?_
   refine Zu (q_add rfl rfl ⟨by omega, by omega⟩) ?_
   refine Zu (q_mul rfl rfl ⟨by omega, by omega⟩) ?_
   refine Zm ?_
   refine Zu (q_add rfl rfl ⟨by omega, by omega⟩) ?_
   refine Zm ?_
   obtain ⟨z89, hz89⟩ : ∃ z, n.l[(((i * ((b.l.length : Int) + 1)) + j)).toNat]? = some z := ⟨_, List.getElem?_eq_getElem (by omega)⟩
   refine Zu (q_ixo (s := n) Tryz.underlying26 sz3 rfl rfl (by omega) (by omega)) ?_
   refine VL.storeE (s := n) (T := 3) (j := 0) (vc := [i64 (max (lcs (a.l.drop (i + 1).toNat) (b.l.drop j.toNat) : Int) (lcs (a.l.drop i.toNat) (b.l.drop (j + 1).toNat) : Int))]) ((max (lcs (a.l.drop (i + 1).toNat) (b.l.drop j.toNat) : Int) (lcs (a.l.drop i.toNat) (b.l.drop (j + 1).toNat) : Int)) : Int) (by decide) rfl rfl hz89 rfl sz3 rfl rfl (Nat.le_of_ble_eq_true rfl) rfl (fun w1 hw1 haw1 hcw1 hvw1 hbw1 how1 => ?_)
   rw [← hvw1]
   refine Zl ?_
   refine Zr ?_
   refine Zm ?_
   refine Zu (q_sub rfl rfl ⟨by omega, by omega⟩) ?_
   refine Za ?_
   refine VL.anyI ((j - 1), w1) [0, 1, 4, 5, 6, 7, 8] (fun _ _ h => h) ?_ rfl (by (try dsimp only); exact EntO.out)
   try dsimp only
   exact ⟨⟨by omega, by omega, tab_step hT (by omega) (by omega) ha hb hz63 hz67 (by rw [if_neg h69]) hw1⟩, by omega⟩
  refine Zx ?_
  refine Zr ?_
  refine Zm ?_
  refine Zu (q_sub rfl rfl ⟨by omega, by omega⟩) ?_
  refine Za ?_
  refine VL.anyI ((i - 1), n) [0, 1, 4, 5, 6, 7] (fun _ _ h => h) ?_ rfl (by (try dsimp only); exact EntO.out)
  try dsimp only
  exact ⟨⟨by omega, by omega, hT.sub fun x y _ _ h => by omega⟩, by omega⟩
 refine Zx ?_
 refine Zq (Zr ?_)
 refine Zy ?_
 refine VC.shutB b35 ?_
 refine VC.shut n 3 (fun _ _ _ _ => trivial) ?_
 exact VC.ret (fin2I (.inr rfl) rfl rfl rfl (b35, n) rfl ((hT.sub fun x y _ _ _ => by omega)) (fun _ _ => trivial))
end Go.Proofs.YtleokmhhloamaaaGreatDoor
end

section
namespace Go.Proofs.YtleokmhhloamaaaGreatDoor
open Go.RowKit Go.V
open Go.P hiding Str
theorem fa386_0 : FieldAt Tryz.prog 386 0 0 := fieldAt_sz (n := 0) (f := ⟨_, _, 0, _, _, _, _⟩) Tryz.underlying386 rfl (by kernel_rfl)
set_option maxRecDepth 100000 in
 theorem step_ct (b0 : Nat) (a b : Sv Str) (n : Sv Int) (i j : Int) (hi0 : 0 ≤ i) (hi1 : i ≤ a.l.length) (hj0 : 0 ≤ j) (hj1 : j ≤ b.l.length) (ha : a.l.length ≤ 256) (hb : b.l.length ≤ 256) (hT : Tab a.l b.l n.l (fun _ _ => True)) :
 Ct Tryz.prog 298 [ptr b0 0, i64 i, i64 j] (((Cells b0 0 [a.val, b.val, n.val]).and n.ok).and (a.ok.and b.ok)) Ow.emp (X := Unit) (fun _ => i64 (stepv (a.l.drop i.toNat) (b.l.drop j.toNat))) (fun _ => True) (fun _ => Mo.tt) (fun _ => Ow.emp) := by
 refine Zo Tryz.func298 Tryz.ntmps298 fun c => ?_
 refine Zq (Zr ?_)
 refine Zy ?_
 refine Zq (Zb (Zq ?_))
 refine VC.draw ((List.range 34).map fun k => (k, true)) mixed (by kernel_rfl) (by kernel_rfl) (by kernel_rfl) ?_
 refine Zw rfl (q_move rfl) ?_
 refine Zw rfl (q_move rfl) ?_
 refine Zw rfl (q_nilCheck rfl) ?_
 refine Zw rfl (q_field fa386_0 rfl) ?_
 refine Zw rfl (q_fm one82 rfl rfl) ?_
 refine Zw rfl (q_ln (s := a) Tryz.underlying82 rfl) ?_
 refine Zw rfl (q_lss rfl rfl) ?_
 refine Zw rfl (q_move rfl) ?_
 refine VD.split_dec 15 rfl (fun h15 => ?_) (fun h15 => ?_)
 ·
  refine Zi rfl (q_move rfl) ?_
  refine Zi rfl (q_move rfl) ?_
  refine Zi rfl (q_nilCheck rfl) ?_
  refine Zi rfl (q_field fa386_1 rfl) ?_
  refine Zi rfl (q_fm one82 rfl rfl) ?_
  refine Zi rfl (q_ln (s := b) Tryz.underlying82 rfl) ?_
  refine Zi rfl (q_lss rfl rfl) ?_
  refine Zw rfl (q_pick_t rfl rfl) ?_
  refine Zw rfl (q_move rfl) ?_
  refine VD.split_dec 24 rfl (fun h24 => ?_) (fun h24 => ?_)
  ·
   refine Zi rfl (q_move rfl) ?_
   refine Zi rfl (q_nilCheck rfl) ?_
   refine Zi rfl (q_field fa386_0 rfl) ?_
   refine Zi rfl (q_fm one82 rfl rfl) ?_
   refine Zi rfl (q_move rfl) ?_
   obtain ⟨z30, hz30⟩ : ∃ z, a.l[(i).toNat]? = some z := ⟨_, List.getElem?_eq_getElem (by omega)⟩
   refine Zi rfl (q_ixm (s := a) Tryz.underlying82 sz9 rfl rfl (by omega) (by omega)) ?_
   refine Zi rfl (q_el (s := a) one9 rfl hz30 rfl) ?_
   refine Zi rfl (q_move rfl) ?_
   refine Zi rfl (q_nilCheck rfl) ?_
   refine Zi rfl (q_field fa386_1 rfl) ?_
   refine Zi rfl (q_fm one82 rfl rfl) ?_
   refine Zi rfl (q_move rfl) ?_
   obtain ⟨z37, hz37⟩ : ∃ z, b.l[(j).toNat]? = some z := ⟨_, List.getElem?_eq_getElem (by omega)⟩
   refine Zi rfl (q_ixm (s := b) Tryz.underlying82 sz9 rfl rfl (by omega) (by omega)) ?_
   refine Zi rfl (q_el (s := b) one9 rfl hz37 rfl) ?_
   refine Zi rfl (q_seq rfl rfl) ?_
   refine Zw rfl (q_pick_t rfl rfl) ?_
   refine Zw rfl (q_assign rfl) ?_
   refine VD.to (fun _ _ h => h) ?_
   refine VC.cond_dec rfl (fun h7 => ?_) (fun h7 => ?_)
   ·
    refine Zq (Zr ?_)
    refine Zy ?_
    exact VC.ret (fin1I (.inr rfl) rfl rfl () (congrArg i64 (by first | exact stepv_a hi0 (by omega) | exact stepv_b hi0 (by omega) hj0 (by omega) | exact stepv_1 hz30 hz37 (by assumption) | exact stepv_2 hi0 hj0 hz30 hz37 (by assumption) (by assumption) | exact stepv_3 hi0 hj0 hz30 hz37 (by assumption) (by assumption))) (trivial) (fun _ _ => trivial))
   refine Zq (Zr ?_)
   refine Zy ?_
   refine Zu (q_nilCheck rfl) ?_
   refine Zu (q_field fa386_0 rfl) ?_
   refine Zu (q_fm one82 rfl rfl) ?_
   refine Zu (q_ln (s := a) Tryz.underlying82 rfl) ?_
   refine Zu (q_lss rfl rfl) ?_
   refine Zm ?_
   refine VL.split_dec 49 rfl (fun h49 => ?_) (fun h49 => ?_)
   ·
    refine Zy ?_
    refine Zh (q_nilCheck rfl) ?_
    refine Zh (q_field fa386_1 rfl) ?_
    refine Zh (q_fm one82 rfl rfl) ?_
    refine Zh (q_ln (s := b) Tryz.underlying82 rfl) ?_
    refine Zh (q_eql rfl rfl) ?_
    refine Zg ?_
    refine VL.split_dec 57 rfl (fun h57 => ?_) (fun h57 => ?_)
    ·
     refine Zy ?_
     refine Zh (q_pick_t rfl rfl) ?_
     refine Zy ?_
     refine VC.cond_t rfl ?_
     refine Zq (Zr ?_)
     refine Zy ?_
     exact VC.ret (fin1I (.inr rfl) rfl rfl () (congrArg i64 (by first | exact stepv_a hi0 (by omega) | exact stepv_b hi0 (by omega) hj0 (by omega) | exact stepv_1 hz30 hz37 (by assumption) | exact stepv_2 hi0 hj0 hz30 hz37 (by assumption) (by assumption) | exact stepv_3 hi0 hj0 hz30 hz37 (by assumption) (by assumption))) (trivial) (fun _ _ => trivial))
    refine Zy ?_
    refine Zh (q_add rfl rfl ⟨by omega, by omega⟩) ?_
    refine Zg ?_
    refine Zh (q_call (at_ct b0 a b n (i + 1) j (lcs (a.l.drop (i + 1).toNat) (b.l.drop j.toNat) : Int) (by omega) (by omega) (by omega) (by omega) (by omega) (hT.2 _ _ (by omega) (by omega) (by trivial))) rfl (fun _ _ => rfl)) ?_
    refine Zy ?_
    refine Zh (q_add rfl rfl ⟨by omega, by omega⟩) ?_
    refine Zh (q_call (at_ct b0 a b n i (j + 1) (lcs (a.l.drop i.toNat) (b.l.drop (j + 1).toNat) : Int) (by omega) (by omega) (by omega) (by omega) (by omega) (hT.2 _ _ (by omega) (by omega) (by trivial))) rfl (fun _ _ => rfl)) ?_
    refine Zh (q_geq rfl rfl) ?_
    refine Zh (q_pick_f rfl rfl) ?_
    refine Zy ?_
    refine VC.cond_dec rfl (fun h41 => ?_) (fun h41 => ?_)
    ·
     refine Zq (Zr ?_)
     refine Zy ?_
     exact VC.ret (fin1I (.inr rfl) rfl rfl () (congrArg i64 (by first | exact stepv_a hi0 (by omega) | exact stepv_b hi0 (by omega) hj0 (by omega) | exact stepv_1 hz30 hz37 (by assumption) | exact stepv_2 hi0 hj0 hz30 hz37 (by assumption) (by assumption) | exact stepv_3 hi0 hj0 hz30 hz37 (by assumption) (by assumption))) (trivial) (fun _ _ => trivial))
    refine Zk ?_
    refine Zq (Zr ?_)
    refine Zy ?_
    exact VC.ret (fin1I (.inr rfl) rfl rfl () (congrArg i64 (by first | exact stepv_a hi0 (by omega) | exact stepv_b hi0 (by omega) hj0 (by omega) | exact stepv_1 hz30 hz37 (by assumption) | exact stepv_2 hi0 hj0 hz30 hz37 (by assumption) (by assumption) | exact stepv_3 hi0 hj0 hz30 hz37 (by assumption) (by assumption))) (trivial) (fun _ _ => trivial))
   refine Zy ?_
   refine VL.gu rfl rfl (by decide) ?_
   refine VL.gu rfl rfl (by decide) ?_
   refine VL.gu rfl rfl (by decide) ?_
   refine VL.gu rfl rfl (by decide) ?_
   refine VL.gu rfl rfl (by decide) ?_
   refine VL.gu rfl rfl (by decide) ?_
   refine VL.gu rfl rfl (by decide) ?_
   refine VL.gu rfl rfl (by decide) ?_
   refine VL.gu rfl rfl (by decide) ?_
   refine VL.gu rfl rfl (by decide) ?_
   refine VL.gu rfl rfl (by decide) ?_
   refine Zy ?_
   refine VC.cond_f rfl ?_
   refine Zk ?_
   refine Zq (Zr ?_)
   refine Zy ?_
   exact VC.ret (fin1I (.inr rfl) rfl rfl () (congrArg i64 (by first | exact stepv_a hi0 (by omega) | exact stepv_b hi0 (by omega) hj0 (by omega) | exact stepv_1 hz30 hz37 (by assumption) | exact stepv_2 hi0 hj0 hz30 hz37 (by assumption) (by assumption) | exact stepv_3 hi0 hj0 hz30 hz37 (by assumption) (by assumption))) (trivial) (fun _ _ => trivial))
  refine Zd ?_
  refine Zd ?_
  refine Zd ?_
  refine Zd ?_
  refine Zd ?_
  refine Zd ?_
  refine Zd ?_
  refine Zd ?_
  refine Zd ?_
  refine Zd ?_
  refine Zd ?_
  refine Zd ?_
  refine Zd ?_
  refine Zd ?_
  refine Zd ?_
  refine Zw rfl (q_pick_f rfl rfl) ?_
  refine Zw rfl (q_assign rfl) ?_
  refine VD.to (fun _ _ h => h) ?_
  refine VC.cond_f rfl ?_
  refine Zq (Zr ?_)
  refine Zy ?_
  refine Zu (q_nilCheck rfl) ?_
  refine Zu (q_field fa386_0 rfl) ?_
  refine Zu (q_fm one82 rfl rfl) ?_
  refine Zu (q_ln (s := a) Tryz.underlying82 rfl) ?_
  refine Zu (q_lss rfl rfl) ?_
  refine Zm ?_
  refine VL.split_dec 49 rfl (fun h49 => ?_) (fun h49 => ?_)
  ·
   refine Zy ?_
   refine Zh (q_nilCheck rfl) ?_
   refine Zh (q_field fa386_1 rfl) ?_
   refine Zh (q_fm one82 rfl rfl) ?_
   refine Zh (q_ln (s := b) Tryz.underlying82 rfl) ?_
   refine Zh (q_eql rfl rfl) ?_
   refine Zg ?_
   refine VL.split_dec 57 rfl (fun h57 => ?_) (fun h57 => ?_)
   ·
    refine Zy ?_
    refine Zh (q_pick_t rfl rfl) ?_
    refine Zy ?_
    refine VC.cond_t rfl ?_
    refine Zq (Zr ?_)
    refine Zy ?_
    exact VC.ret (fin1I (.inr rfl) rfl rfl () (congrArg i64 (by first | exact stepv_a hi0 (by omega) | exact stepv_b hi0 (by omega) hj0 (by omega) | exact stepv_1 hz30 hz37 (by assumption) | exact stepv_2 hi0 hj0 hz30 hz37 (by assumption) (by assumption) | exact stepv_3 hi0 hj0 hz30 hz37 (by assumption) (by assumption))) (trivial) (fun _ _ => trivial))
   refine Zy ?_
   refine Zh (q_add rfl rfl ⟨by omega, by omega⟩) ?_
   refine Zg ?_
   refine Zh (q_call (at_ct b0 a b n (i + 1) j (lcs (a.l.drop (i + 1).toNat) (b.l.drop j.toNat) : Int) (by omega) (by omega) (by omega) (by omega) (by omega) (hT.2 _ _ (by omega) (by omega) (by trivial))) rfl (fun _ _ => rfl)) ?_
   refine Zy ?_
   refine Zh (q_add rfl rfl ⟨by omega, by omega⟩) ?_
   refine Zh (q_call (at_ct b0 a b n i (j + 1) (lcs (a.l.drop i.toNat) (b.l.drop (j + 1).toNat) : Int) (by omega) (by omega) (by omega) (by omega) (by omega) (hT.2 _ _ (by omega) (by omega) (by trivial))) rfl (fun _ _ => rfl)) ?_
   refine Zh (q_geq rfl rfl) ?_
   refine Zh (q_pick_f rfl rfl) ?_
   refine Zy ?_
   refine VC.cond_dec rfl (fun h41 => ?_) (fun h41 => ?_)
   ·
    refine Zq (Zr ?_)
    refine Zy ?_
    exact VC.ret (fin1I (.inr rfl) rfl rfl () (congrArg i64 (by first | exact stepv_a hi0 (by omega) | exact stepv_b hi0 (by omega) hj0 (by omega) | exact stepv_1 hz30 hz37 (by assumption) | exact stepv_2 hi0 hj0 hz30 hz37 (by assumption) (by assumption) | exact stepv_3 hi0 hj0 hz30 hz37 (by assumption) (by assumption))) (trivial) (fun _ _ => trivial))
   refine Zk ?_
   refine Zq (Zr ?_)
   refine Zy ?_
   exact VC.ret (fin1I (.inr rfl) rfl rfl () (congrArg i64 (by first | exact stepv_a hi0 (by omega) | exact stepv_b hi0 (by omega) hj0 (by omega) | exact stepv_1 hz30 hz37 (by assumption) | exact stepv_2 hi0 hj0 hz30 hz37 (by assumption) (by assumption) | exact stepv_3 hi0 hj0 hz30 hz37 (by assumption) (by assumption))) (trivial) (fun _ _ => trivial))
  refine Zy ?_
  refine VL.gu rfl rfl (by decide) ?_
  refine VL.gu rfl rfl (by decide) ?_
  refine VL.gu rfl rfl (by decide) ?_
  refine VL.gu rfl rfl (by decide) ?_
  refine VL.gu rfl rfl (by decide) ?_
  refine VL.gu rfl rfl (by decide) ?_
  refine VL.gu rfl rfl (by decide) ?_
  refine VL.gu rfl rfl (by decide) ?_
  refine VL.gu rfl rfl (by decide) ?_
  refine VL.gu rfl rfl (by decide) ?_
  refine VL.gu rfl rfl (by decide) ?_
  refine Zy ?_
  refine VC.cond_f rfl ?_
  refine Zk ?_
  refine Zq (Zr ?_)
  refine Zy ?_
  exact VC.ret (fin1I (.inr rfl) rfl rfl () (congrArg i64 (by first | exact stepv_a hi0 (by omega) | exact stepv_b hi0 (by omega) hj0 (by omega) | exact stepv_1 hz30 hz37 (by assumption) | exact stepv_2 hi0 hj0 hz30 hz37 (by assumption) (by assumption) | exact stepv_3 hi0 hj0 hz30 hz37 (by assumption) (by assumption))) (trivial) (fun _ _ => trivial))
 refine Zd ?_
 refine Zd ?_
 refine Zd ?_
 refine Zd ?_
 refine Zd ?_
 refine Zd ?_
 refine Zd ?_
 refine Zw rfl (q_pick_f rfl rfl) ?_
 refine Zw rfl (q_move rfl) ?_
 refine Zd ?_
 refine Zd ?_
 refine Zd ?_
 refine Zd ?_
 refine Zd ?_
 refine Zd ?_
 refine Zd ?_
 refine Zd ?_
 refine Zd ?_
 refine Zd ?_
 refine Zd ?_
 refine Zd ?_
 refine Zd ?_
 refine Zd ?_
 refine Zd ?_
 refine Zw rfl (q_pick_f rfl rfl) ?_
 refine Zw rfl (q_assign rfl) ?_
 refine VD.to (fun _ _ h => h) ?_
 refine VC.cond_f rfl ?_
 refine Zq (Zr ?_)
 refine Zy ?_
 refine Zu (q_nilCheck rfl) ?_
 refine Zu (q_field fa386_0 rfl) ?_
 refine Zu (q_fm one82 rfl rfl) ?_
 refine Zu (q_ln (s := a) Tryz.underlying82 rfl) ?_
 refine Zu (q_lss rfl rfl) ?_
 refine Zm ?_
 refine VL.split_dec 49 rfl (fun h49 => ?_) (fun h49 => ?_)
 ·
  refine Zy ?_
  refine Zh (q_nilCheck rfl) ?_
  refine Zh (q_field fa386_1 rfl) ?_
  refine Zh (q_fm one82 rfl rfl) ?_
  refine Zh (q_ln (s := b) Tryz.underlying82 rfl) ?_
  refine Zh (q_eql rfl rfl) ?_
  refine Zg ?_
  refine VL.split_dec 57 rfl (fun h57 => ?_) (fun h57 => ?_)
  ·
   refine Zy ?_
   refine Zh (q_pick_t rfl rfl) ?_
   refine Zy ?_
   refine VC.cond_t rfl ?_
   refine Zq (Zr ?_)
   refine Zy ?_
   exact VC.ret (fin1I (.inr rfl) rfl rfl () (congrArg i64 (by first | exact stepv_a hi0 (by omega) | exact stepv_b hi0 (by omega) hj0 (by omega) | exact stepv_1 hz30 hz37 (by assumption) | exact stepv_2 hi0 hj0 hz30 hz37 (by assumption) (by assumption) | exact stepv_3 hi0 hj0 hz30 hz37 (by assumption) (by assumption))) (trivial) (fun _ _ => trivial))
  refine Zy ?_
  refine Zh (q_add rfl rfl ⟨by omega, by omega⟩) ?_
  refine Zg ?_
  refine Zh (q_call (at_ct b0 a b n (i + 1) j (lcs (a.l.drop (i + 1).toNat) (b.l.drop j.toNat) : Int) (by omega) (by omega) (by omega) (by omega) (by omega) (hT.2 _ _ (by omega) (by omega) (by trivial))) rfl (fun _ _ => rfl)) ?_
  refine Zy ?_
  refine Zh (q_add rfl rfl ⟨by omega, by omega⟩) ?_
  refine Zh (q_call (at_ct b0 a b n i (j + 1) (lcs (a.l.drop i.toNat) (b.l.drop (j + 1).toNat) : Int) (by omega) (by omega) (by omega) (by omega) (by omega) (hT.2 _ _ (by omega) (by omega) (by trivial))) rfl (fun _ _ => rfl)) ?_
  refine Zh (q_geq rfl rfl) ?_
  refine Zh (q_pick_f rfl rfl) ?_
  refine Zy ?_
  refine VC.cond_dec rfl (fun h41 => ?_) (fun h41 => ?_)
  ·
   refine Zq (Zr ?_)
   refine Zy ?_
   exact VC.ret (fin1I (.inr rfl) rfl rfl () (congrArg i64 (by first | exact stepv_a hi0 (by omega) | exact stepv_b hi0 (by omega) hj0 (by omega) | exact stepv_1 hz30 hz37 (by assumption) | exact stepv_2 hi0 hj0 hz30 hz37 (by assumption) (by assumption) | exact stepv_3 hi0 hj0 hz30 hz37 (by assumption) (by assumption))) (trivial) (fun _ _ => trivial))
  refine Zk ?_
  refine Zq (Zr ?_)
  refine Zy ?_
  exact VC.ret (fin1I (.inr rfl) rfl rfl () (congrArg i64 (by first | exact stepv_a hi0 (by omega) | exact stepv_b hi0 (by omega) hj0 (by omega) | exact stepv_1 hz30 hz37 (by assumption) | exact stepv_2 hi0 hj0 hz30 hz37 (by assumption) (by assumption) | exact stepv_3 hi0 hj0 hz30 hz37 (by assumption) (by assumption))) (trivial) (fun _ _ => trivial))
 refine Zy ?_
 refine VL.gu rfl rfl (by decide) ?_
 refine VL.gu rfl rfl (by decide) ?_
 refine VL.gu rfl rfl (by decide) ?_
 refine VL.gu rfl rfl (by decide) ?_
 refine VL.gu rfl rfl (by decide) ?_
 refine VL.gu rfl rfl (by decide) ?_
 refine VL.gu rfl rfl (by decide) ?_
 refine VL.gu rfl rfl (by decide) ?_
 refine VL.gu rfl rfl (by decide) ?_
 refine VL.gu rfl rfl (by decide) ?_
 refine VL.gu rfl rfl (by decide) ?_
 refine Zy ?_
 refine VC.cond_f rfl ?_
 refine Zk ?_
 refine Zq (Zr ?_)
 refine Zy ?_
 exact VC.ret (fin1I (.inr rfl) rfl rfl () (congrArg i64 (by first | exact stepv_a hi0 (by omega) | exact stepv_b hi0 (by omega) hj0 (by omega) | exact stepv_1 hz30 hz37 (by assumption) | exact stepv_2 hi0 hj0 hz30 hz37 (by assumption) (by assumption) | exact stepv_3 hi0 hj0 hz30 hz37 (by assumption) (by assumption))) (trivial) (fun _ _ => trivial))
end Go.Proofs.YtleokmhhloamaaaGreatDoor
end

section
namespace Go.Proofs.YtleokmhhloamaaaGreatDoor
open Go.RowKit Go.V
open Go.P hiding Str
theorem lit366 : ((Tryz.prog.info? 366).map fun i => (i.size, i.zero.isSome)) = some (2, true) := by kernel_rfl
theorem app366 : ((Tryz.prog.info? 366).map fun i => (i.size, i.bytes, (i.zero.map fun z => z.cells.size))) = some (2, 24, some 2) := by kernel_rfl
-- Lines
set_option maxRecDepth 100000 in
 theorem lines_ct (a b : Sv Str) (ha : a.l.length ≤ 256) (hb : b.l.length ≤ 256) :
 Ct Tryz.prog 283 [a.val, b.val] (a.ok.and b.ok) Ow.emp (X := Sv Edit) (fun q => .tuple #[q.val, .nilIface]) (fun q => q.l = edits a.l b.l) (fun q => q.ok) (fun _ => Ow.emp) := by
 refine Zo Tryz.func283 Tryz.ntmps283 fun c => ?_
 refine Zq (Zr ?_)
 refine Zy ?_
 refine Zq (Zr ?_)
 refine Zy ?_
 refine VL.callF (made_ct a b (by first | assumption | omega) (by first | assumption | omega)) rfl (by decide) ?_
 rintro ⟨b0, n⟩ hT
 dsimp only at hT
 dsimp only
 refine Zm ?_
 refine Zu (q_extract rfl rfl) ?_
 refine Zu (q_extract rfl rfl) ?_
 refine Zy ?_
 refine Zq (Zq (Zr ?_))
 refine Zm ?_
 refine Zu (q_nilne Tryz.underlying29 rfl) ?_
 refine Zl ?_
 refine VC.cond_f rfl ?_
 refine Zk ?_
 refine Zq (Zr ?_)
 refine Zy ?_
 refine Zq (Zq (Zr ?_))
 refine Zy ?_
 refine Zb ?_
 refine VC.nilO (⟨none, 0, []⟩ : Sv Edit) 366 ⟨rfl, rfl⟩ ?_
 refine VC.loopK (S := Int × Int × Sv Edit) (fun sg => 0 ≤ sg.1 ∧ sg.1 ≤ a.l.length ∧ 0 ≤ sg.2.1 ∧ sg.2.1 ≤ b.l.length ∧ (sg.2.2.l.length : Int) ≤ sg.1 + sg.2.1 ∧ sg.2.2.l ++ edits (a.l.drop sg.1.toNat) (b.l.drop sg.2.1.toNat) = edits a.l b.l) (fun sg => [(0, a.val), (1, b.val), (4, .slice none 0 0), (5, .nilIface), (6, ptr b0 0), (7, .nilIface), (9, i64 sg.1), (10, i64 sg.2.1), (8, sg.2.2.val)]) (fun sg => Ow.star (Sv.own sg.2.2 366) (Ow.emp)) (fun sg => ((a.l.length - sg.1) + (b.l.length - sg.2.1)).toNat) (0, 0, ⟨none, 0, []⟩) [0, 1, 4, 5, 6, 7, 9, 10, 8] (by (try dsimp only); exact ⟨by omega, by omega, by omega, by omega, by simp, rfl⟩) rfl (by (try dsimp only); exact EntO.out) ?_
 rintro ⟨i, j, o⟩ hI
 show VC _ _ _ _ _ [(0, a.val), (1, b.val), (4, .slice none 0 0), (5, .nilIface), (6, ptr b0 0), (7, .nilIface), (9, i64 i), (10, i64 j), (8, o.val)] _ (Ow.star (Sv.own o 366) (Ow.emp))
 try dsimp only at hI
 obtain ⟨hi0, hi1, hj0, hj1, hol, hed⟩ := hI
 refine Zq (Zq (Zr ?_))
 refine Zy ?_
 refine Zu (q_ln (s := a) Tryz.underlying82 rfl) ?_
 refine Zu (q_lss rfl rfl) ?_
 refine Zm ?_
 refine VL.split_dec 26 rfl (fun h26 => ?_) (fun h26 => ?_)
 ·
  refine Zy ?_
  refine VC.cond_t rfl ?_
  refine Zk ?_
  refine Zb (Zq (Zr ?_))
  refine Zy ?_
  refine Zu (q_call (step_ct b0 a b n i j (by omega) (by omega) (by omega) (by omega) ha hb hT) rfl (fun _ _ => rfl)) ?_
  refine Zy ?_
  refine Zq (Zr ?_)
  refine Zy ?_
  refine Zq (Zq (Zr ?_))
  refine Zy ?_
  refine Zb (Zq (Zb (Zq (Zb (Zq (Zb (Zq (Zq (Zq (Zr ?_))))))))))
  refine Zu (q_eql rfl rfl) ?_
  refine Zy ?_
  refine VC.cond_dec rfl (fun h37 => ?_) (fun h37 => ?_)
  ·
   obtain ⟨hia, hjb⟩ := stepv_is1 h37
   refine Zx ?_
   refine Zr ?_
   refine Zm ?_
   refine Zu (q_add rfl rfl ⟨by omega, by omega⟩) ?_
   refine Zy ?_
   refine Zq (Zq (Zr ?_))
   refine Zy ?_
   obtain ⟨z47, hz47⟩ : ∃ z, a.l[(i).toNat]? = some z := ⟨_, List.getElem?_eq_getElem (by omega)⟩
   refine Zu (q_ixm (s := a) Tryz.underlying82 sz9 rfl rfl (by omega) (by omega)) ?_
   refine Zu (q_el (s := a) one9 rfl hz47 rfl) ?_
   refine Zy ?_
   refine Zr ?_
   refine Zm ?_
   refine Zu (q_add rfl rfl ⟨by omega, by omega⟩) ?_
   refine Zy ?_
   refine Zx ?_
   refine Zr ?_
   refine Zy ?_
   refine Zu (q_build (vs := [(0, i64 (stepv (a.l.drop i.toNat) (b.l.drop j.toNat))), (1, str z47)]) (cs := #[i64 (stepv (a.l.drop i.toNat) (b.l.drop j.toNat)), str z47]) rfl (by kernel_rfl)) ?_
   refine VL.lit (α := Edit) (xs := [.tmp 60]) (vs := [.agg #[i64 (stepv (a.l.drop i.toNat) (b.l.drop j.toNat)), str z47]]) [⟨(stepv (a.l.drop i.toNat) (b.l.drop j.toNat)), z47⟩] Tryz.underlying363 lit366 (by decide) rfl rfl rfl rfl (by decide) (fun _ _ _ _ => trivial) (by decide) (fun s61 hs61 => ?_) (by decide)
   refine VL.app (s := o) (r := s61) Tryz.underlying363 app366 (by decide) rfl Fo.out (by rw [hs61]; simp; omega) (by rw [hs61]; simp; omega) (by decide) (fun s62 hs62 => ?_)
   refine Za ?_
   refine VL.anyI ((i + 1), (j + 1), s62) [0, 1, 4, 5, 6, 7, 9, 10, 8] (fun _ _ h => h) ?_ rfl (by (try dsimp only); exact EntO.out)
   try dsimp only
   have hlen : s62.l.length = o.l.length + 1 := by rw [hs62, hs61]; simp
   first
     | exact ⟨⟨by omega, by omega, by omega, by omega, by omega, round_1 hi0 hj0 (by assumption) hz47 hed hs62 hs61⟩, by omega⟩
     | exact ⟨⟨by omega, by omega, by omega, by omega, by omega, round_2 hi0 (by assumption) hz47 hed hs62 hs61⟩, by omega⟩
     | exact ⟨⟨by omega, by omega, by omega, by omega, by omega, round_3 hj0 (by assumption) hz53 hed hs62 hs61⟩, by omega⟩
  refine Zk ?_
  refine Zq (Zq (Zr ?_))
  refine Zu (q_eql rfl rfl) ?_
  refine Zy ?_
  refine VC.cond_dec rfl (fun h39 => ?_) (fun h39 => ?_)
  ·
   have hia := stepv_is2 h39
   refine Zx ?_
   refine Zq (Zq (Zr ?_))
   refine Zy ?_
   obtain ⟨z47, hz47⟩ : ∃ z, a.l[(i).toNat]? = some z := ⟨_, List.getElem?_eq_getElem (by omega)⟩
   refine Zu (q_ixm (s := a) Tryz.underlying82 sz9 rfl rfl (by omega) (by omega)) ?_
   refine Zu (q_el (s := a) one9 rfl hz47 rfl) ?_
   refine Zy ?_
   refine Zr ?_
   refine Zm ?_
   refine Zu (q_add rfl rfl ⟨by omega, by omega⟩) ?_
   refine Zy ?_
   refine Zx ?_
   refine Zr ?_
   refine Zy ?_
   refine Zu (q_build (vs := [(0, i64 (stepv (a.l.drop i.toNat) (b.l.drop j.toNat))), (1, str z47)]) (cs := #[i64 (stepv (a.l.drop i.toNat) (b.l.drop j.toNat)), str z47]) rfl (by kernel_rfl)) ?_
   refine VL.lit (α := Edit) (xs := [.tmp 60]) (vs := [.agg #[i64 (stepv (a.l.drop i.toNat) (b.l.drop j.toNat)), str z47]]) [⟨(stepv (a.l.drop i.toNat) (b.l.drop j.toNat)), z47⟩] Tryz.underlying363 lit366 (by decide) rfl rfl rfl rfl (by decide) (fun _ _ _ _ => trivial) (by decide) (fun s61 hs61 => ?_) (by decide)
   refine VL.app (s := o) (r := s61) Tryz.underlying363 app366 (by decide) rfl Fo.out (by rw [hs61]; simp; omega) (by rw [hs61]; simp; omega) (by decide) (fun s62 hs62 => ?_)
   refine Za ?_
   refine VL.anyI ((i + 1), j, s62) [0, 1, 4, 5, 6, 7, 9, 10, 8] (fun _ _ h => h) ?_ rfl (by (try dsimp only); exact EntO.out)
   try dsimp only
   have hlen : s62.l.length = o.l.length + 1 := by rw [hs62, hs61]; simp
   first
     | exact ⟨⟨by omega, by omega, by omega, by omega, by omega, round_1 hi0 hj0 (by assumption) hz47 hed hs62 hs61⟩, by omega⟩
     | exact ⟨⟨by omega, by omega, by omega, by omega, by omega, round_2 hi0 (by assumption) hz47 hed hs62 hs61⟩, by omega⟩
     | exact ⟨⟨by omega, by omega, by omega, by omega, by omega, round_3 hj0 (by assumption) hz53 hed hs62 hs61⟩, by omega⟩
  refine Zk ?_
  refine Zq (Zr ?_)
  refine Zu (q_eql rfl rfl) ?_
  refine Zy ?_
  refine VC.cond_dec rfl (fun h41 => ?_) (fun h41 => ?_)
  ·
   have hjb := stepv_is3 hi0 hj0 h41 (by first | exact .inl (by assumption) | exact .inr (by assumption))
   refine Zx ?_
   refine Zq (Zq (Zr ?_))
   refine Zy ?_
   obtain ⟨z53, hz53⟩ : ∃ z, b.l[(j).toNat]? = some z := ⟨_, List.getElem?_eq_getElem (by omega)⟩
   refine Zu (q_ixm (s := b) Tryz.underlying82 sz9 rfl rfl (by omega) (by omega)) ?_
   refine Zu (q_el (s := b) one9 rfl hz53 rfl) ?_
   refine Zy ?_
   refine Zr ?_
   refine Zm ?_
   refine Zu (q_add rfl rfl ⟨by omega, by omega⟩) ?_
   refine Zy ?_
   refine Zx ?_
   refine Zr ?_
   refine Zy ?_
   refine Zu (q_build (vs := [(0, i64 (stepv (a.l.drop i.toNat) (b.l.drop j.toNat))), (1, str z53)]) (cs := #[i64 (stepv (a.l.drop i.toNat) (b.l.drop j.toNat)), str z53]) rfl (by kernel_rfl)) ?_
   refine VL.lit (α := Edit) (xs := [.tmp 60]) (vs := [.agg #[i64 (stepv (a.l.drop i.toNat) (b.l.drop j.toNat)), str z53]]) [⟨(stepv (a.l.drop i.toNat) (b.l.drop j.toNat)), z53⟩] Tryz.underlying363 lit366 (by decide) rfl rfl rfl rfl (by decide) (fun _ _ _ _ => trivial) (by decide) (fun s61 hs61 => ?_) (by decide)
   refine VL.app (s := o) (r := s61) Tryz.underlying363 app366 (by decide) rfl Fo.out (by rw [hs61]; simp; omega) (by rw [hs61]; simp; omega) (by decide) (fun s62 hs62 => ?_)
   refine Za ?_
   refine VL.anyI (i, (j + 1), s62) [0, 1, 4, 5, 6, 7, 9, 10, 8] (fun _ _ h => h) ?_ rfl (by (try dsimp only); exact EntO.out)
   try dsimp only
   have hlen : s62.l.length = o.l.length + 1 := by rw [hs62, hs61]; simp
   first
     | exact ⟨⟨by omega, by omega, by omega, by omega, by omega, round_1 hi0 hj0 (by assumption) hz47 hed hs62 hs61⟩, by omega⟩
     | exact ⟨⟨by omega, by omega, by omega, by omega, by omega, round_2 hi0 (by assumption) hz47 hed hs62 hs61⟩, by omega⟩
     | exact ⟨⟨by omega, by omega, by omega, by omega, by omega, round_3 hj0 (by assumption) hz53 hed hs62 hs61⟩, by omega⟩
  rcases stepv_cases (a.l.drop i.toNat) (b.l.drop j.toNat) with h | h | h <;> contradiction
 refine Zy ?_
 refine Zh (q_ln (s := b) Tryz.underlying82 rfl) ?_
 refine Zh (q_lss rfl rfl) ?_
 refine Zy ?_
 refine VC.cond_dec rfl (fun h31 => ?_) (fun h31 => ?_)
 ·
  refine Zk ?_
  refine Zb (Zq (Zr ?_))
  refine Zy ?_
  refine Zu (q_call (step_ct b0 a b n i j (by omega) (by omega) (by omega) (by omega) ha hb hT) rfl (fun _ _ => rfl)) ?_
  refine Zy ?_
  refine Zq (Zr ?_)
  refine Zy ?_
  refine Zq (Zq (Zr ?_))
  refine Zy ?_
  refine Zb (Zq (Zb (Zq (Zb (Zq (Zb (Zq (Zq (Zq (Zr ?_))))))))))
  refine Zu (q_eql rfl rfl) ?_
  refine Zy ?_
  refine VC.cond_dec rfl (fun h37 => ?_) (fun h37 => ?_)
  ·
   obtain ⟨hia, hjb⟩ := stepv_is1 h37
   refine Zx ?_
   refine Zr ?_
   refine Zm ?_
   refine Zu (q_add rfl rfl ⟨by omega, by omega⟩) ?_
   refine Zy ?_
   refine Zq (Zq (Zr ?_))
   refine Zy ?_
   obtain ⟨z47, hz47⟩ : ∃ z, a.l[(i).toNat]? = some z := ⟨_, List.getElem?_eq_getElem (by omega)⟩
   refine Zu (q_ixm (s := a) Tryz.underlying82 sz9 rfl rfl (by omega) (by omega)) ?_
   refine Zu (q_el (s := a) one9 rfl hz47 rfl) ?_
   refine Zy ?_
   refine Zr ?_
   refine Zm ?_
   refine Zu (q_add rfl rfl ⟨by omega, by omega⟩) ?_
   refine Zy ?_
   refine Zx ?_
   refine Zr ?_
   refine Zy ?_
   refine Zu (q_build (vs := [(0, i64 (stepv (a.l.drop i.toNat) (b.l.drop j.toNat))), (1, str z47)]) (cs := #[i64 (stepv (a.l.drop i.toNat) (b.l.drop j.toNat)), str z47]) rfl (by kernel_rfl)) ?_
   refine VL.lit (α := Edit) (xs := [.tmp 60]) (vs := [.agg #[i64 (stepv (a.l.drop i.toNat) (b.l.drop j.toNat)), str z47]]) [⟨(stepv (a.l.drop i.toNat) (b.l.drop j.toNat)), z47⟩] Tryz.underlying363 lit366 (by decide) rfl rfl rfl rfl (by decide) (fun _ _ _ _ => trivial) (by decide) (fun s61 hs61 => ?_) (by decide)
   refine VL.app (s := o) (r := s61) Tryz.underlying363 app366 (by decide) rfl Fo.out (by rw [hs61]; simp; omega) (by rw [hs61]; simp; omega) (by decide) (fun s62 hs62 => ?_)
   refine Za ?_
   refine VL.anyI ((i + 1), (j + 1), s62) [0, 1, 4, 5, 6, 7, 9, 10, 8] (fun _ _ h => h) ?_ rfl (by (try dsimp only); exact EntO.out)
   try dsimp only
   have hlen : s62.l.length = o.l.length + 1 := by rw [hs62, hs61]; simp
   first
     | exact ⟨⟨by omega, by omega, by omega, by omega, by omega, round_1 hi0 hj0 (by assumption) hz47 hed hs62 hs61⟩, by omega⟩
     | exact ⟨⟨by omega, by omega, by omega, by omega, by omega, round_2 hi0 (by assumption) hz47 hed hs62 hs61⟩, by omega⟩
     | exact ⟨⟨by omega, by omega, by omega, by omega, by omega, round_3 hj0 (by assumption) hz53 hed hs62 hs61⟩, by omega⟩
  refine Zk ?_
  refine Zq (Zq (Zr ?_))
  refine Zu (q_eql rfl rfl) ?_
  refine Zy ?_
  refine VC.cond_dec rfl (fun h39 => ?_) (fun h39 => ?_)
  ·
   have hia := stepv_is2 h39
   refine Zx ?_
   refine Zq (Zq (Zr ?_))
   refine Zy ?_
   obtain ⟨z47, hz47⟩ : ∃ z, a.l[(i).toNat]? = some z := ⟨_, List.getElem?_eq_getElem (by omega)⟩
   refine Zu (q_ixm (s := a) Tryz.underlying82 sz9 rfl rfl (by omega) (by omega)) ?_
   refine Zu (q_el (s := a) one9 rfl hz47 rfl) ?_
   refine Zy ?_
   refine Zr ?_
   refine Zm ?_
   refine Zu (q_add rfl rfl ⟨by omega, by omega⟩) ?_
   refine Zy ?_
   refine Zx ?_
   refine Zr ?_
   refine Zy ?_
   refine Zu (q_build (vs := [(0, i64 (stepv (a.l.drop i.toNat) (b.l.drop j.toNat))), (1, str z47)]) (cs := #[i64 (stepv (a.l.drop i.toNat) (b.l.drop j.toNat)), str z47]) rfl (by kernel_rfl)) ?_
   refine VL.lit (α := Edit) (xs := [.tmp 60]) (vs := [.agg #[i64 (stepv (a.l.drop i.toNat) (b.l.drop j.toNat)), str z47]]) [⟨(stepv (a.l.drop i.toNat) (b.l.drop j.toNat)), z47⟩] Tryz.underlying363 lit366 (by decide) rfl rfl rfl rfl (by decide) (fun _ _ _ _ => trivial) (by decide) (fun s61 hs61 => ?_) (by decide)
   refine VL.app (s := o) (r := s61) Tryz.underlying363 app366 (by decide) rfl Fo.out (by rw [hs61]; simp; omega) (by rw [hs61]; simp; omega) (by decide) (fun s62 hs62 => ?_)
   refine Za ?_
   refine VL.anyI ((i + 1), j, s62) [0, 1, 4, 5, 6, 7, 9, 10, 8] (fun _ _ h => h) ?_ rfl (by (try dsimp only); exact EntO.out)
   try dsimp only
   have hlen : s62.l.length = o.l.length + 1 := by rw [hs62, hs61]; simp
   first
     | exact ⟨⟨by omega, by omega, by omega, by omega, by omega, round_1 hi0 hj0 (by assumption) hz47 hed hs62 hs61⟩, by omega⟩
     | exact ⟨⟨by omega, by omega, by omega, by omega, by omega, round_2 hi0 (by assumption) hz47 hed hs62 hs61⟩, by omega⟩
     | exact ⟨⟨by omega, by omega, by omega, by omega, by omega, round_3 hj0 (by assumption) hz53 hed hs62 hs61⟩, by omega⟩
  refine Zk ?_
  refine Zq (Zr ?_)
  refine Zu (q_eql rfl rfl) ?_
  refine Zy ?_
  refine VC.cond_dec rfl (fun h41 => ?_) (fun h41 => ?_)
  ·
   have hjb := stepv_is3 hi0 hj0 h41 (by first | exact .inl (by assumption) | exact .inr (by assumption))
   refine Zx ?_
   refine Zq (Zq (Zr ?_))
   refine Zy ?_
   obtain ⟨z53, hz53⟩ : ∃ z, b.l[(j).toNat]? = some z := ⟨_, List.getElem?_eq_getElem (by omega)⟩
   refine Zu (q_ixm (s := b) Tryz.underlying82 sz9 rfl rfl (by omega) (by omega)) ?_
   refine Zu (q_el (s := b) one9 rfl hz53 rfl) ?_
   refine Zy ?_
   refine Zr ?_
   refine Zm ?_
   refine Zu (q_add rfl rfl ⟨by omega, by omega⟩) ?_
   refine Zy ?_
   refine Zx ?_
   refine Zr ?_
   refine Zy ?_
   refine Zu (q_build (vs := [(0, i64 (stepv (a.l.drop i.toNat) (b.l.drop j.toNat))), (1, str z53)]) (cs := #[i64 (stepv (a.l.drop i.toNat) (b.l.drop j.toNat)), str z53]) rfl (by kernel_rfl)) ?_
   refine VL.lit (α := Edit) (xs := [.tmp 60]) (vs := [.agg #[i64 (stepv (a.l.drop i.toNat) (b.l.drop j.toNat)), str z53]]) [⟨(stepv (a.l.drop i.toNat) (b.l.drop j.toNat)), z53⟩] Tryz.underlying363 lit366 (by decide) rfl rfl rfl rfl (by decide) (fun _ _ _ _ => trivial) (by decide) (fun s61 hs61 => ?_) (by decide)
   refine VL.app (s := o) (r := s61) Tryz.underlying363 app366 (by decide) rfl Fo.out (by rw [hs61]; simp; omega) (by rw [hs61]; simp; omega) (by decide) (fun s62 hs62 => ?_)
   refine Za ?_
   refine VL.anyI (i, (j + 1), s62) [0, 1, 4, 5, 6, 7, 9, 10, 8] (fun _ _ h => h) ?_ rfl (by (try dsimp only); exact EntO.out)
   try dsimp only
   have hlen : s62.l.length = o.l.length + 1 := by rw [hs62, hs61]; simp
   first
     | exact ⟨⟨by omega, by omega, by omega, by omega, by omega, round_1 hi0 hj0 (by assumption) hz47 hed hs62 hs61⟩, by omega⟩
     | exact ⟨⟨by omega, by omega, by omega, by omega, by omega, round_2 hi0 (by assumption) hz47 hed hs62 hs61⟩, by omega⟩
     | exact ⟨⟨by omega, by omega, by omega, by omega, by omega, round_3 hj0 (by assumption) hz53 hed hs62 hs61⟩, by omega⟩
  rcases stepv_cases (a.l.drop i.toNat) (b.l.drop j.toNat) with h | h | h <;> contradiction
 refine Zx ?_
 refine Zq ?_
 refine VC.shut o 366 (fun _ _ _ _ => trivial) ?_
 refine Zr ?_
 refine Zm ?_
 refine VL.callF (clipE_ct o) rfl (by decide) ?_
 rintro s64 hs64
 refine Zy ?_
 exact VC.ret (fin2I (.inr rfl) rfl rfl rfl s64 rfl ((edits_end (by assumption) (by assumption) hed hs64)) (fun _ _ => trivial))
end Go.Proofs.YtleokmhhloamaaaGreatDoor
end

section
namespace Go.Proofs.YtleokmhhloamaaaGreatDoor
open Go.RowKit Go.V
open Go.P hiding Str
theorem agg366 : AggOf Tryz.prog 366 2 := aggOf_of Tryz.underlying366 rfl (by kernel_rfl)
theorem fa366_0 : FieldAt Tryz.prog 366 0 0 := fieldAt_sz (n := 0) (f := ⟨_, _, 0, _, _, _, _⟩) Tryz.underlying366 rfl (by kernel_rfl)
theorem lit342 : ((Tryz.prog.info? 342).map fun i => (i.size, i.zero.isSome)) = some (3, true) := by kernel_rfl
theorem app342 : ((Tryz.prog.info? 342).map fun i => (i.size, i.bytes, (i.zero.map fun z => z.cells.size))) = some (3, 24, some 3) := by kernel_rfl
theorem fa342_2 : FieldAt Tryz.prog 342 2 2 := fieldAt_sz (n := 0) (f := ⟨_, _, 2, _, _, _, _⟩) Tryz.underlying342 rfl (by kernel_rfl)
set_option maxRecDepth 100000 in
 theorem matches_ct (a b : Sv Str) (ha : a.l.length ≤ 256) (hb : b.l.length ≤ 256) :
 Ct Tryz.prog 261 [a.val, b.val] (a.ok.and b.ok) Ow.emp (X := Sv Mat) (fun q => .tuple #[q.val, .nilIface]) (fun q => q.l = mats (edits a.l b.l)) (fun q => q.ok) (fun _ => Ow.emp) := by
 refine Zo Tryz.func261 Tryz.ntmps261 fun c => ?_
 refine Zq (Zr ?_)
 refine Zy ?_
 refine Zq (Zr ?_)
 refine Zy ?_
 refine VL.callF (lines_ct a b ha hb) rfl (by decide) ?_
 rintro l hl
 refine Zm ?_
 refine Zu (q_extract rfl rfl) ?_
 refine Zu (q_extract rfl rfl) ?_
 refine Zy ?_
 refine Zq (Zq (Zr ?_))
 refine Zm ?_
 refine Zu (q_nilne Tryz.underlying29 rfl) ?_
 refine Zl ?_
 refine VC.cond_f rfl ?_
 refine Zk ?_
 refine Zq (Zr ?_)
 refine Zy ?_
 refine Zq (Zr ?_)
 refine Zy ?_
 refine Zq (Zq ?_)
 have hll := edits_len a.l b.l
 rw [← hl] at hll
 refine Zr ?_
 refine Zm ?_
 refine Zu (q_ln (s := l) Tryz.underlying363 rfl) ?_
 refine Zy ?_
 refine Zb ?_
 refine VC.nilO (⟨none, 0, []⟩ : Sv Mat) 342 ⟨rfl, rfl⟩ ?_
 refine VC.loopK (S := Int × Int × Int × Bool × Sv Mat) (fun sg => MInv l.l sg.1 sg.2.1 sg.2.2.1 sg.2.2.2.1 sg.2.2.2.2.l) (fun sg => [(0, a.val), (1, b.val), (4, .slice none 0 0), (5, .nilIface), (6, l.val), (7, .nilIface), (23, l.val), (24, i64 (l.l.length : Int)), (25, i64 sg.1), (9, i64 sg.2.1), (10, i64 sg.2.2.1), (11, .bool sg.2.2.2.1), (8, sg.2.2.2.2.val)]) (fun sg => Ow.star (Sv.own sg.2.2.2.2 342) (Ow.emp)) (fun sg => (l.l.length - sg.1).toNat) (0, 0, 0, false, ⟨none, 0, []⟩) [0, 1, 4, 5, 6, 7, 23, 24, 25, 9, 10, 11, 8] (by (try dsimp only); exact ⟨rfl, (fun h => by cases h), by omega, by omega, by omega, by omega, by omega, by omega, by simp, (fun _ h => by cases h)⟩) rfl (by (try dsimp only); exact EntO.out) ?_
 rintro ⟨k, i, j, row, o⟩ hI
 show VC _ _ _ _ _ [(0, a.val), (1, b.val), (4, .slice none 0 0), (5, .nilIface), (6, l.val), (7, .nilIface), (23, l.val), (24, i64 (l.l.length : Int)), (25, i64 k), (9, i64 i), (10, i64 j), (11, .bool row), (8, o.val)] _ (Ow.star (Sv.own o 342) (Ow.emp))
 try dsimp only at hI
 have k0 := hI.k0
 have k1 := hI.k1
 have i0 := hI.i0
 have i1 := hI.i1
 have j0 := hI.j0
 have j1 := hI.j1
 have ho := hI.len
 refine Zq (Zr ?_)
 refine Zu (q_lss rfl rfl) ?_
 refine Zl ?_
 refine Zq ?_
 refine VC.cond_dec rfl (fun h26 => ?_) (fun h26 => ?_)
 ·
  refine Zk ?_
  refine Zq (Zb (Zq (Zr ?_)))
  obtain ⟨z27, hz27⟩ : ∃ z, l.l[(k).toNat]? = some z := ⟨_, List.getElem?_eq_getElem (by omega)⟩
  refine Zu (q_ixm (s := l) Tryz.underlying363 sz366 rfl rfl (by omega) (by omega)) ?_
  refine Zu (q_els (s := l) agg366 rfl rfl hz27) ?_
  refine VL.alloc (cs := [i64 0, str []]) (by kernel_rfl) (by decide) fun b13 => ?_
  refine Zv (vc := [i64 z27.op, str z27.line]) (cs' := [i64 z27.op, str z27.line]) rfl sz366 ?_
  refine Zl ?_
  refine Zq (Zq (Zr ?_))
  refine Zu (q_field fa366_0 rfl) ?_
  refine Zu (q_fe one3 rfl rfl) ?_
  refine Zu (q_eql rfl rfl) ?_
  refine Zl ?_
  refine VC.cond_dec rfl (fun h31 => ?_) (fun h31 => ?_)
  ·
   refine Zq (Zq (Zr ?_))
   refine Zm ?_
   refine Zu (q_not rfl) ?_
   refine Zl ?_
   refine VC.cond rfl (fun h33 => ?_) (fun h33 => ?_)
   ·
    refine Zr ?_
    refine Zy ?_
    refine Zu (q_build (vs := [(0, i64 i), (1, i64 j)]) (cs := #[i64 i, i64 j, i64 0]) rfl (by kernel_rfl)) ?_
    refine VL.lit (α := Mat) (xs := [.tmp 37]) (vs := [.agg #[i64 i, i64 j, i64 0]]) [⟨i, j, 0⟩] Tryz.underlying337 lit342 (by decide) rfl rfl rfl rfl (by decide) (fun _ _ _ _ => trivial) (by decide) (fun s38 hs38 => ?_) (by decide)
    refine VL.app (s := o) (r := s38) Tryz.underlying337 app342 (by decide) rfl Fo.out (by rw [hs38]; simp; omega) (by rw [hs38]; simp; omega) (by decide) (fun s39 hs39 => ?_)
    have hs39' : s39.l = o.l ++ [⟨i, j, 0⟩] := by rw [hs39, hs38]
    have hlen39 : s39.l.length = o.l.length + 1 := by rw [hs39']; simp
    refine Zy ?_
    skip
    refine Zr ?_
    refine Zy ?_
    refine Zu (q_ln (s := s39) Tryz.underlying337 rfl) ?_
    refine Zu (q_sub rfl rfl ⟨by omega, by omega⟩) ?_
    obtain ⟨z44, hz44⟩ : ∃ z, s39.l[(((s39.l.length : Int) - 1)).toNat]? = some z := ⟨_, List.getElem?_eq_getElem (by omega)⟩
    refine Zu (q_ixo (s := s39) Tryz.underlying337 sz342 rfl rfl (by omega) (by omega)) ?_
    refine Zu (q_field fa342_2 rfl) ?_
    have hbd := (hI.bd.snoc hI.i0 hI.j0) z44 (List.mem_of_getElem? (by rw [← hs39']; exact hz44))
    refine Zu (q_elfo (s := s39) one3 rfl hz44 rfl) ?_
    refine Zu (q_add rfl rfl ⟨by omega, by omega⟩) ?_
    refine Zu (q_ixo (s := s39) Tryz.underlying337 sz342 rfl rfl (by omega) (by omega)) ?_
    refine Zu (q_field fa342_2 rfl) ?_
    refine VL.storeE (s := s39) (T := 342) (j := 2) (vc := [i64 (z44.n + 1)]) (⟨z44.a, z44.b, (z44.n + 1)⟩ : Mat) (by decide) rfl rfl hz44 rfl sz3 rfl rfl (Nat.le_of_ble_eq_true rfl) rfl (fun w0 hw0 haw0 hcw0 hvw0 hbw0 how0 => ?_)
    rw [← hvw0]
    refine Zl ?_
    refine Zq (Zr ?_)
    refine Zu (q_field fa366_0 rfl) ?_
    refine Zu (q_fe one3 rfl rfl) ?_
    refine Zu (q_eql rfl rfl) ?_
    refine Zy ?_
    refine Zq (Zq (Zr ?_))
    refine Zu (q_field fa366_0 rfl) ?_
    refine Zu (q_fe one3 rfl rfl) ?_
    refine Zu (q_neq rfl rfl) ?_
    refine Zl ?_
    refine VC.cond_ndec rfl (fun h55 => ?_) (fun h55 => ?_)
    ·
     refine Zr ?_
     refine Zm ?_
     refine Zu (q_add rfl rfl ⟨by omega, by omega⟩) ?_
     refine Zy ?_
     refine Zq (Zr ?_)
     refine Zu (q_field fa366_0 rfl) ?_
     refine Zu (q_fe one3 rfl rfl) ?_
     refine Zu (q_neq rfl rfl) ?_
     refine Zl ?_
     refine VC.cond_ndec rfl (fun h60 => ?_) (fun h60 => ?_)
     ·
      refine Zr ?_
      refine Zm ?_
      refine Zu (q_add rfl rfl ⟨by omega, by omega⟩) ?_
      refine Zy ?_
      refine Zr ?_
      refine Zu (q_add rfl rfl ⟨by omega, by omega⟩) ?_
      refine Zm ?_
      refine VL.anyI ((k + 1), (i + 1), (j + 1), decide (z27.op = 1), w0) [0, 1, 4, 5, 6, 7, 23, 24, 25, 9, 10, 11, 8] (fun _ _ h => h) ?_ rfl (by (try dsimp only); exact EntO.out)
      try dsimp only
      exact ⟨minv_step hI hz27 (by rw [if_pos h31, if_neg (by simpa using h33)]; rw [← hs39']; exact bump_set rfl hz44 hw0) (by first | (exfalso; omega) | rw [if_pos (by omega)] | rw [if_neg (by omega)]) (by first | (exfalso; omega) | rw [if_pos (by omega)] | rw [if_neg (by omega)]) rfl, by omega⟩
     refine Zk ?_
     refine Zr ?_
     refine Zu (q_add rfl rfl ⟨by omega, by omega⟩) ?_
     refine Zm ?_
     refine VL.anyI ((k + 1), (i + 1), j, decide (z27.op = 1), w0) [0, 1, 4, 5, 6, 7, 23, 24, 25, 9, 10, 11, 8] (fun _ _ h => h) ?_ rfl (by (try dsimp only); exact EntO.out)
     try dsimp only
     exact ⟨minv_step hI hz27 (by rw [if_pos h31, if_neg (by simpa using h33)]; rw [← hs39']; exact bump_set rfl hz44 hw0) (by first | (exfalso; omega) | rw [if_pos (by omega)] | rw [if_neg (by omega)]) (by first | (exfalso; omega) | rw [if_pos (by omega)] | rw [if_neg (by omega)]) rfl, by omega⟩
    refine Zk ?_
    refine Zq (Zr ?_)
    refine Zu (q_field fa366_0 rfl) ?_
    refine Zu (q_fe one3 rfl rfl) ?_
    refine Zu (q_neq rfl rfl) ?_
    refine Zl ?_
    refine VC.cond_ndec rfl (fun h60 => ?_) (fun h60 => ?_)
    ·
     refine Zr ?_
     refine Zm ?_
     refine Zu (q_add rfl rfl ⟨by omega, by omega⟩) ?_
     refine Zy ?_
     refine Zr ?_
     refine Zu (q_add rfl rfl ⟨by omega, by omega⟩) ?_
     refine Zm ?_
     refine VL.anyI ((k + 1), i, (j + 1), decide (z27.op = 1), w0) [0, 1, 4, 5, 6, 7, 23, 24, 25, 9, 10, 11, 8] (fun _ _ h => h) ?_ rfl (by (try dsimp only); exact EntO.out)
     try dsimp only
     exact ⟨minv_step hI hz27 (by rw [if_pos h31, if_neg (by simpa using h33)]; rw [← hs39']; exact bump_set rfl hz44 hw0) (by first | (exfalso; omega) | rw [if_pos (by omega)] | rw [if_neg (by omega)]) (by first | (exfalso; omega) | rw [if_pos (by omega)] | rw [if_neg (by omega)]) rfl, by omega⟩
    refine Zk ?_
    refine Zr ?_
    refine Zu (q_add rfl rfl ⟨by omega, by omega⟩) ?_
    refine Zm ?_
    refine VL.anyI ((k + 1), i, j, decide (z27.op = 1), w0) [0, 1, 4, 5, 6, 7, 23, 24, 25, 9, 10, 11, 8] (fun _ _ h => h) ?_ rfl (by (try dsimp only); exact EntO.out)
    try dsimp only
    exact ⟨minv_step hI hz27 (by rw [if_pos h31, if_neg (by simpa using h33)]; rw [← hs39']; exact bump_set rfl hz44 hw0) (by first | (exfalso; omega) | rw [if_pos (by omega)] | rw [if_neg (by omega)]) (by first | (exfalso; omega) | rw [if_pos (by omega)] | rw [if_neg (by omega)]) rfl, by omega⟩
   refine Zk ?_
   have hon := hI.row (by simpa using h33)
   have hol : 0 < o.l.length := List.length_pos_iff.2 hon
   refine Zr ?_
   refine Zy ?_
   refine Zu (q_ln (s := o) Tryz.underlying337 rfl) ?_
   refine Zu (q_sub rfl rfl ⟨by omega, by omega⟩) ?_
   obtain ⟨z44, hz44⟩ : ∃ z, o.l[(((o.l.length : Int) - 1)).toNat]? = some z := ⟨_, List.getElem?_eq_getElem (by omega)⟩
   refine Zu (q_ixo (s := o) Tryz.underlying337 sz342 rfl rfl (by omega) (by omega)) ?_
   refine Zu (q_field fa342_2 rfl) ?_
   have hbd := hI.bd z44 (List.mem_of_getElem? hz44)
   refine Zu (q_elfo (s := o) one3 rfl hz44 rfl) ?_
   refine Zu (q_add rfl rfl ⟨by omega, by omega⟩) ?_
   refine Zu (q_ixo (s := o) Tryz.underlying337 sz342 rfl rfl (by omega) (by omega)) ?_
   refine Zu (q_field fa342_2 rfl) ?_
   refine VL.storeE (s := o) (T := 342) (j := 2) (vc := [i64 (z44.n + 1)]) (⟨z44.a, z44.b, (z44.n + 1)⟩ : Mat) (by decide) rfl rfl hz44 rfl sz3 rfl rfl (Nat.le_of_ble_eq_true rfl) rfl (fun w1 hw1 haw1 hcw1 hvw1 hbw1 how1 => ?_)
   rw [← hvw1]
   refine Zl ?_
   refine Zq (Zr ?_)
   refine Zu (q_field fa366_0 rfl) ?_
   refine Zu (q_fe one3 rfl rfl) ?_
   refine Zu (q_eql rfl rfl) ?_
   refine Zy ?_
   refine Zq (Zq (Zr ?_))
   refine Zu (q_field fa366_0 rfl) ?_
   refine Zu (q_fe one3 rfl rfl) ?_
   refine Zu (q_neq rfl rfl) ?_
   refine Zl ?_
   refine VC.cond_ndec rfl (fun h55 => ?_) (fun h55 => ?_)
   ·
    refine Zr ?_
    refine Zm ?_
    refine Zu (q_add rfl rfl ⟨by omega, by omega⟩) ?_
    refine Zy ?_
    refine Zq (Zr ?_)
    refine Zu (q_field fa366_0 rfl) ?_
    refine Zu (q_fe one3 rfl rfl) ?_
    refine Zu (q_neq rfl rfl) ?_
    refine Zl ?_
    refine VC.cond_ndec rfl (fun h60 => ?_) (fun h60 => ?_)
    ·
     refine Zr ?_
     refine Zm ?_
     refine Zu (q_add rfl rfl ⟨by omega, by omega⟩) ?_
     refine Zy ?_
     refine Zr ?_
     refine Zu (q_add rfl rfl ⟨by omega, by omega⟩) ?_
     refine Zm ?_
     refine VL.anyI ((k + 1), (i + 1), (j + 1), decide (z27.op = 1), w1) [0, 1, 4, 5, 6, 7, 23, 24, 25, 9, 10, 11, 8] (fun _ _ h => h) ?_ rfl (by (try dsimp only); exact EntO.out)
     try dsimp only
     exact ⟨minv_step hI hz27 (by rw [if_pos h31, if_pos (by simpa using h33)]; exact bump_set rfl hz44 hw1) (by first | (exfalso; omega) | rw [if_pos (by omega)] | rw [if_neg (by omega)]) (by first | (exfalso; omega) | rw [if_pos (by omega)] | rw [if_neg (by omega)]) rfl, by omega⟩
    refine Zk ?_
    refine Zr ?_
    refine Zu (q_add rfl rfl ⟨by omega, by omega⟩) ?_
    refine Zm ?_
    refine VL.anyI ((k + 1), (i + 1), j, decide (z27.op = 1), w1) [0, 1, 4, 5, 6, 7, 23, 24, 25, 9, 10, 11, 8] (fun _ _ h => h) ?_ rfl (by (try dsimp only); exact EntO.out)
    try dsimp only
    exact ⟨minv_step hI hz27 (by rw [if_pos h31, if_pos (by simpa using h33)]; exact bump_set rfl hz44 hw1) (by first | (exfalso; omega) | rw [if_pos (by omega)] | rw [if_neg (by omega)]) (by first | (exfalso; omega) | rw [if_pos (by omega)] | rw [if_neg (by omega)]) rfl, by omega⟩
   refine Zk ?_
   refine Zq (Zr ?_)
   refine Zu (q_field fa366_0 rfl) ?_
   refine Zu (q_fe one3 rfl rfl) ?_
   refine Zu (q_neq rfl rfl) ?_
   refine Zl ?_
   refine VC.cond_ndec rfl (fun h60 => ?_) (fun h60 => ?_)
   ·
    refine Zr ?_
    refine Zm ?_
    refine Zu (q_add rfl rfl ⟨by omega, by omega⟩) ?_
    refine Zy ?_
    refine Zr ?_
    refine Zu (q_add rfl rfl ⟨by omega, by omega⟩) ?_
    refine Zm ?_
    refine VL.anyI ((k + 1), i, (j + 1), decide (z27.op = 1), w1) [0, 1, 4, 5, 6, 7, 23, 24, 25, 9, 10, 11, 8] (fun _ _ h => h) ?_ rfl (by (try dsimp only); exact EntO.out)
    try dsimp only
    exact ⟨minv_step hI hz27 (by rw [if_pos h31, if_pos (by simpa using h33)]; exact bump_set rfl hz44 hw1) (by first | (exfalso; omega) | rw [if_pos (by omega)] | rw [if_neg (by omega)]) (by first | (exfalso; omega) | rw [if_pos (by omega)] | rw [if_neg (by omega)]) rfl, by omega⟩
   refine Zk ?_
   refine Zr ?_
   refine Zu (q_add rfl rfl ⟨by omega, by omega⟩) ?_
   refine Zm ?_
   refine VL.anyI ((k + 1), i, j, decide (z27.op = 1), w1) [0, 1, 4, 5, 6, 7, 23, 24, 25, 9, 10, 11, 8] (fun _ _ h => h) ?_ rfl (by (try dsimp only); exact EntO.out)
   try dsimp only
   exact ⟨minv_step hI hz27 (by rw [if_pos h31, if_pos (by simpa using h33)]; exact bump_set rfl hz44 hw1) (by first | (exfalso; omega) | rw [if_pos (by omega)] | rw [if_neg (by omega)]) (by first | (exfalso; omega) | rw [if_pos (by omega)] | rw [if_neg (by omega)]) rfl, by omega⟩
  refine Zk ?_
  refine Zq (Zr ?_)
  refine Zu (q_field fa366_0 rfl) ?_
  refine Zu (q_fe one3 rfl rfl) ?_
  refine Zu (q_eql rfl rfl) ?_
  refine Zy ?_
  refine Zq (Zq (Zr ?_))
  refine Zu (q_field fa366_0 rfl) ?_
  refine Zu (q_fe one3 rfl rfl) ?_
  refine Zu (q_neq rfl rfl) ?_
  refine Zl ?_
  refine VC.cond_ndec rfl (fun h55 => ?_) (fun h55 => ?_)
  ·
   refine Zr ?_
   refine Zm ?_
   refine Zu (q_add rfl rfl ⟨by omega, by omega⟩) ?_
   refine Zy ?_
   refine Zq (Zr ?_)
   refine Zu (q_field fa366_0 rfl) ?_
   refine Zu (q_fe one3 rfl rfl) ?_
   refine Zu (q_neq rfl rfl) ?_
   refine Zl ?_
   refine VC.cond_ndec rfl (fun h60 => ?_) (fun h60 => ?_)
   ·
    refine Zr ?_
    refine Zm ?_
    refine Zu (q_add rfl rfl ⟨by omega, by omega⟩) ?_
    refine Zy ?_
    refine Zr ?_
    refine Zu (q_add rfl rfl ⟨by omega, by omega⟩) ?_
    refine Zm ?_
    refine VL.anyI ((k + 1), (i + 1), (j + 1), decide (z27.op = 1), o) [0, 1, 4, 5, 6, 7, 23, 24, 25, 9, 10, 11, 8] (fun _ _ h => h) ?_ rfl (by (try dsimp only); exact EntO.out)
    try dsimp only
    exact ⟨minv_step hI hz27 (by rw [if_neg h31]) (by first | (exfalso; omega) | rw [if_pos (by omega)] | rw [if_neg (by omega)]) (by first | (exfalso; omega) | rw [if_pos (by omega)] | rw [if_neg (by omega)]) rfl, by omega⟩
   refine Zk ?_
   refine Zr ?_
   refine Zu (q_add rfl rfl ⟨by omega, by omega⟩) ?_
   refine Zm ?_
   refine VL.anyI ((k + 1), (i + 1), j, decide (z27.op = 1), o) [0, 1, 4, 5, 6, 7, 23, 24, 25, 9, 10, 11, 8] (fun _ _ h => h) ?_ rfl (by (try dsimp only); exact EntO.out)
   try dsimp only
   exact ⟨minv_step hI hz27 (by rw [if_neg h31]) (by first | (exfalso; omega) | rw [if_pos (by omega)] | rw [if_neg (by omega)]) (by first | (exfalso; omega) | rw [if_pos (by omega)] | rw [if_neg (by omega)]) rfl, by omega⟩
  refine Zk ?_
  refine Zq (Zr ?_)
  refine Zu (q_field fa366_0 rfl) ?_
  refine Zu (q_fe one3 rfl rfl) ?_
  refine Zu (q_neq rfl rfl) ?_
  refine Zl ?_
  refine VC.cond_ndec rfl (fun h60 => ?_) (fun h60 => ?_)
  ·
   refine Zr ?_
   refine Zm ?_
   refine Zu (q_add rfl rfl ⟨by omega, by omega⟩) ?_
   refine Zy ?_
   refine Zr ?_
   refine Zu (q_add rfl rfl ⟨by omega, by omega⟩) ?_
   refine Zm ?_
   refine VL.anyI ((k + 1), i, (j + 1), decide (z27.op = 1), o) [0, 1, 4, 5, 6, 7, 23, 24, 25, 9, 10, 11, 8] (fun _ _ h => h) ?_ rfl (by (try dsimp only); exact EntO.out)
   try dsimp only
   exact ⟨minv_step hI hz27 (by rw [if_neg h31]) (by first | (exfalso; omega) | rw [if_pos (by omega)] | rw [if_neg (by omega)]) (by first | (exfalso; omega) | rw [if_pos (by omega)] | rw [if_neg (by omega)]) rfl, by omega⟩
  refine Zk ?_
  refine Zr ?_
  refine Zu (q_add rfl rfl ⟨by omega, by omega⟩) ?_
  refine Zm ?_
  refine VL.anyI ((k + 1), i, j, decide (z27.op = 1), o) [0, 1, 4, 5, 6, 7, 23, 24, 25, 9, 10, 11, 8] (fun _ _ h => h) ?_ rfl (by (try dsimp only); exact EntO.out)
  try dsimp only
  exact ⟨minv_step hI hz27 (by rw [if_neg h31]) (by first | (exfalso; omega) | rw [if_pos (by omega)] | rw [if_neg (by omega)]) (by first | (exfalso; omega) | rw [if_pos (by omega)] | rw [if_neg (by omega)]) rfl, by omega⟩
 refine Zx ?_
 refine Zq ?_
 refine VC.shut o 342 (fun _ _ _ _ => trivial) ?_
 refine Zr ?_
 refine Zm ?_
 refine VL.callF (clipM_ct o) rfl (by decide) ?_
 rintro s65 hs65
 refine Zy ?_
 exact VC.ret (fin2I (.inr rfl) rfl rfl rfl s65 rfl ((by rw [hs65, ← hl, ← hI.eq, List.drop_eq_nil_of_le (by omega)]; rfl)) (fun _ _ => trivial))
end Go.Proofs.YtleokmhhloamaaaGreatDoor
end

section
namespace Go.Proofs
open Go.Shelf
def Tryz.lays264_ren : Go.Shelf.Ren := ⟨fun | 264 => 301 | n => n, fun | 53 => 231 | 46 => 232 | n => n, fun | n => n⟩
theorem Tryz.lays264 : Go.Proofs.Lays.n264 Tryz.prog Tryz.lays264_ren := {
  mixed := by kernel_rfl
  f264 := Tryz.func301.trans (congrArg some (by kernel_rfl))
  t46 := Tryz.underlying232
  a46 := Tryz.isAgg232
  z46 := Tryz.sizeOf232
  v46 := Tryz.zeroValue232
  t53 := Tryz.underlying231
  a53 := Tryz.isAgg231
  z53 := Tryz.sizeOf231
  v53 := Tryz.zeroValue231 }
open Go.RowKit Go.Lib in
theorem Tryz.bits_Mul64 (x y : Nat) (hx : x < 18446744073709551616) (hy : y < 18446744073709551616) (w : World) :
    Calls Tryz.prog 301 #[.int .u64 x, .int .u64 y] w fun e w' => e = .returned (.tuple #[.int .u64 ((x * y / 18446744073709551616 : Nat) : Int), .int .u64 ((x * y % 18446744073709551616 : Nat) : Int)]) ∧ w' = w := Any.bits_Mul64 Tryz.lays264 x y hx hy w
def Tryz.lays212_ren : Go.Shelf.Ren := ⟨fun | 212 => 285 | 263 => 300 | 264 => 301 | n => n, fun | 46 => 232 | 51 => 233 | 146 => 376 | 53 => 231 | 148 => 378 | n => n, fun | n => n⟩
theorem Tryz.lays212 : Go.Proofs.Lays.n212 Tryz.prog Tryz.lays212_ren := {
  mixed := by kernel_rfl
  f212 := Tryz.func285.trans (congrArg some (by kernel_rfl))
  f263 := Tryz.func300.trans (congrArg some (by kernel_rfl))
  f264 := Tryz.func301.trans (congrArg some (by kernel_rfl))
  t46 := Tryz.underlying232
  a46 := Tryz.isAgg232
  z46 := Tryz.sizeOf232
  v46 := Tryz.zeroValue232
  t51 := Tryz.underlying233
  a51 := Tryz.isAgg233
  z51 := Tryz.sizeOf233
  v51 := Tryz.zeroValue233
  t53 := Tryz.underlying231
  a53 := Tryz.isAgg231
  z53 := Tryz.sizeOf231
  v53 := Tryz.zeroValue231
  t146 := Tryz.underlying376
  a146 := Tryz.isAgg376
  z146 := Tryz.sizeOf376
  v146 := Tryz.zeroValue376
  t148 := Tryz.underlying378
  a148 := Tryz.isAgg378
  z148 := Tryz.sizeOf378
  v148 := Tryz.zeroValue378 }
open Go.RowKit Go.Lib in
/-- math/bits.Mul: "Mul returns the full-width product of x and y": on a machine of 64 bits: Mul64's. (LAID: no walk: one application.) -/
theorem Tryz.bits_Mul (x y : Nat) (hx : x < 18446744073709551616) (hy : y < 18446744073709551616) (w : World) :
    Calls Tryz.prog 285 #[.int .u64 x, .int .u64 y] w fun e w' => e = .returned (.tuple #[.int .u64 ((x * y / 18446744073709551616 : Nat) : Int), .int .u64 ((x * y % 18446744073709551616 : Nat) : Int)]) ∧ w' = w := Any.bits_Mul Tryz.lays212 x y hx hy w
end Go.Proofs
end

section
namespace Go.Proofs.YtleokmhhloamaaaGreatDoor
open Go.RowKit Go.V
open Go.P hiding Str
theorem mul1_ct (x n : Int) (hx : x = 1) (h0 : 0 ≤ n) (h1 : n ≤ 1048576) : Ct Tryz.prog 285 [.int .u64 x, .int .u64 n] Mo.tt Ow.emp (X := Unit) (fun _ => .tuple #[.int .u64 0, .int .u64 n]) (fun _ => True) (fun _ => Mo.tt) (fun _ => Ow.emp) :=
  Ct.of_gr (entry_of Tryz.func285 rfl (by kernel_rfl)) fun w h _ _ => by
  have := Tryz.bits_Mul 1 n.toNat (by omega) (by omega) w
  subst hx
  have e1 : ((n.toNat : Nat) : Int) = n := by omega
  have e2 : 1 * n.toNat / 18446744073709551616 = 0 := by omega
  have e3 : 1 * n.toNat % 18446744073709551616 = n.toNat := by omega
  rw [e2, e3, e1] at this
  refine this.mono fun e w' ⟨h1, h2⟩ => ⟨h1, h2 ▸ Gr.refl w⟩
set_option maxRecDepth 100000 in
 theorem repeat_ct (r : Sv Int) (v n : Int) (hr : r.l = [v]) (h0 : 0 ≤ n) (h1 : n ≤ 1048576) :
 Ct Tryz.prog 262 [r.val, i64 n] r.ok Ow.emp (X := Sv Int) Sv.val (fun q => q.l = List.replicate n.toNat v) (fun _ => Mo.tt) (fun q => q.own 3) := by
 have hrl : (r.l.length : Int) = 1 := by rw [hr]; rfl
 refine Zo Tryz.func262 Tryz.ntmps262 fun c => ?_
 refine Zq (Zr ?_)
 refine Zy ?_
 refine Zq (Zq (Zr ?_))
 refine Zm ?_
 refine Zu (q_lss rfl rfl) ?_
 refine Zl ?_
 refine VC.cond_dec rfl (fun h10 => ?_) (fun h10 => ?_)
 ·
  exact absurd h10 (by omega)
 refine Zk ?_
 refine Zq (Zr ?_)
 refine Zm ?_
 refine Zu (q_ln (s := r) Tryz.underlying26 rfl) ?_
 refine Zu (q_conv Tryz.underlying3 Tryz.underlying232 rfl (by rw [hrl]; rfl)) ?_
 refine Zm ?_
 refine Zu (q_conv Tryz.underlying3 Tryz.underlying232 rfl (wrap_u64 (by omega) (by omega))) ?_
 refine Zu (q_call (mul1_ct (r.l.length : Int) n hrl h0 h1) rfl (fun _ _ => rfl)) ?_
 refine Zm ?_
 refine Zu (q_extract rfl rfl) ?_
 refine Zu (q_extract rfl rfl) ?_
 refine Zy ?_
 refine Zq (Zq (Zr ?_))
 refine Zm ?_
 refine Zu (q_gtr rfl rfl) ?_
 refine VL.setv 22 rfl (congrArg Value.bool (decide_eq_false (by omega))) ?_
 refine Zy ?_
 refine Zh (q_gtr rfl rfl) ?_
 refine Zy ?_
 refine VC.cond_dec rfl (fun h26 => ?_) (fun h26 => ?_)
 ·
  exact absurd h26 (by omega)
 refine Zk ?_
 refine Zq (Zr ?_)
 refine Zm ?_
 refine Zu (q_conv Tryz.underlying232 Tryz.underlying3 rfl (IntWalk.i64_in _ (by omega))) ?_
 refine VL.make (α := Int) (z := 0) Tryz.underlying26 mk3 (by decide) rfl rfl (by omega) (by omega) (by omega) (by omega) (by decide) (fun s30 hs30 => ?_)
 refine Zy ?_
 refine Zq (Zr ?_)
 refine Zy ?_
 refine VL.copy (s := s30) (T := 3) (k := 0) (n := s30.l.length) (sr := r.l) rfl Tryz.underlying26 sz3 Fo.out rfl (by simp) (fun _ => .inr ⟨rfl, rfl⟩) (ok_src rfl) (by decide) fun s33 hs33 hv33 ha33 hc33 => ?_
 rw [← hv33]
 refine Zy ?_
 refine Zq (Zb ?_)
 refine VC.loopK (S := Int × Sv Int) (fun sg => 0 ≤ sg.1 ∧ sg.1 ≤ sg.2.l.length ∧ sg.2.l.length = n.toNat ∧ sg.2.l.take sg.1.toNat = List.replicate sg.1.toNat v ∧ (sg.1 = 0 → n = 0)) (fun sg => [(0, r.val), (1, i64 n), (4, .slice none 0 0), (5, .int .u64 (0 : Int)), (6, .int .u64 n), (7, sg.2.val), (8, i64 sg.1), (7, sg.2.val)]) (fun sg => Ow.star (Sv.own sg.2 3) (Ow.emp)) (fun sg => (sg.2.l.length - sg.1).toNat) (((min r.l.length s30.l.length : Nat) : Int), s33) [0, 1, 4, 5, 6, 7, 8, 7] (by (try dsimp only); exact rep_init h0 hr hs30 hs33) rfl (by (try dsimp only); exact EntO.out) ?_
 rintro ⟨m, s⟩ hI
 show VC _ _ _ _ _ [(0, r.val), (1, i64 n), (4, .slice none 0 0), (5, .int .u64 (0 : Int)), (6, .int .u64 n), (7, s.val), (8, i64 m), (7, s.val)] _ (Ow.star (Sv.own s 3) (Ow.emp))
 try dsimp only at hI
 obtain ⟨h0m, h1m, hsl, hm, hmz⟩ := hI
 refine Zq (Zq (Zr ?_))
 refine Zy ?_
 refine Zu (q_ln (s := s) Tryz.underlying26 rfl) ?_
 refine Zu (q_lss rfl rfl) ?_
 refine Zl ?_
 refine VC.cond_dec rfl (fun h37 => ?_) (fun h37 => ?_)
 ·
  refine Zk ?_
  refine Zb ?_
  refine VC.lenO s fun hlc hcm => ?_
  refine VC.draw [(0, true), (1, true), (2, true), (3, true), (4, true), (5, true), (6, true), (7, false), (8, true), (9, true)] mixed (by kernel_rfl) (by kernel_rfl) (by kernel_rfl) ?_
  refine Zw rfl (q_move rfl) ?_
  refine Zw rfl (q_move rfl) ?_
  refine Zw rfl (q_move rfl) ?_
  refine Zw rfl (q_cut (s := s) m.toNat s.l.length s.c Tryz.underlying26 sz3 rfl rfl rfl rfl (by show m = _; omega) rfl rfl (fun h => by cases h) (by omega) hlc (Nat.le_refl _) (Nat.le_refl _)) ?_
  refine Zw rfl (q_move rfl) ?_
  refine Zw rfl (q_move rfl) ?_
  refine Zw rfl (q_cut (s := s) 0 m.toNat s.c Tryz.underlying26 sz3 rfl rfl rfl rfl rfl (by show m = _; omega) rfl (fun h => by cases h) (by omega) (by omega) (Nat.le_refl _) (by omega)) ?_
  refine VD.one rfl ?_
  refine VL.copy (s := s) (T := 3) (k := m.toNat) (n := ((s.l.drop m.toNat).take (s.l.length - m.toNat)).length) (sr := (s.l.drop 0).take (m.toNat - 0)) rfl Tryz.underlying26 sz3 Fo.out rfl (by simp; omega) (fun hn => .inl (if_neg (by simp at hn; omega))) (own_src rfl (by omega)) (by decide) fun s' hs' hv' ha' hc' => ?_
  rw [← hv']
  refine VL.back (D' := []) (by kernel_rfl) (Pend.nil) ?_
  obtain ⟨r1, r2, r3, r4⟩ := rep_step h0m h1m hm hs'
  refine Zw rfl (q_add rfl rfl ⟨by omega, by omega⟩) ?_
  refine Zw rfl (q_assign rfl) ?_
  refine VD.anyI ((m + ((min ((s.l.drop 0).take (m.toNat - 0)).length ((s.l.drop m.toNat).take (s.l.length - m.toNat)).length : Nat) : Int)), s') [0, 1, 4, 5, 6, 7, 8, 7] (fun _ _ h => h) ?_ rfl (by (try dsimp only); exact EntO.out)
  try dsimp only
  exact ⟨⟨by omega, by omega, by omega, r2, by omega⟩, by omega⟩
 refine Zx ?_
 refine Zq (Zr ?_)
 refine Zy ?_
 exact VC.ret (fin1I (.inr rfl) rfl rfl s rfl ((rep_end h1m (by assumption) hsl hm)) HasO.out)
end Go.Proofs.YtleokmhhloamaaaGreatDoor
end

section
namespace Go.Proofs.YtleokmhhloamaaaGreatDoor
open Go.RowKit Go.V
open Go.P hiding Str
theorem lit3 : ((Tryz.prog.info? 3).map fun i => (i.size, i.zero.isSome)) = some (1, true) := by kernel_rfl
theorem agg342 : AggOf Tryz.prog 342 3 := aggOf_of Tryz.underlying342 rfl (by kernel_rfl)
theorem fa342_0 : FieldAt Tryz.prog 342 0 0 := fieldAt_sz (n := 0) (f := ⟨_, _, 0, _, _, _, _⟩) Tryz.underlying342 rfl (by kernel_rfl)
theorem fa342_1 : FieldAt Tryz.prog 342 1 1 := fieldAt_sz (n := 0) (f := ⟨_, _, 1, _, _, _, _⟩) Tryz.underlying342 rfl (by kernel_rfl)
set_option maxRecDepth 100000 in
 theorem places_ct (a b : Sv Str) (ha : a.l.length ≤ 256) (hb : b.l.length ≤ 256) :
 Ct Tryz.prog 224 [a.val, b.val] (a.ok.and b.ok) Ow.emp (X := Sv Int) (fun q => .tuple #[q.val, .nilIface]) (fun q => q.l = places a.l b.l) (fun q => q.ok) (fun _ => Ow.emp) := by
 refine Zo Tryz.func224 Tryz.ntmps224 fun c => ?_
 refine Zq (Zr ?_)
 refine Zy ?_
 refine Zq (Zr ?_)
 refine Zy ?_
 refine VL.callF (matches_ct a b ha hb) rfl (by decide) ?_
 rintro l hl
 refine Zm ?_
 refine Zu (q_extract rfl rfl) ?_
 refine Zu (q_extract rfl rfl) ?_
 refine Zy ?_
 refine Zq (Zq (Zr ?_))
 refine Zm ?_
 refine Zu (q_nilne Tryz.underlying29 rfl) ?_
 refine Zl ?_
 refine VC.cond_f rfl ?_
 refine Zk ?_
 refine Zq (Zr ?_)
 refine VL.lit (α := Int) (xs := [.const (i64 (-1))]) (vs := [i64 (-1)]) [(-1)] Tryz.underlying26 lit3 (by decide) rfl rfl rfl rfl (by decide) (fun _ _ _ _ => trivial) (by decide) (fun s21 hs21 => ?_) (by decide)
 refine Zm ?_
 refine Zu (q_ln (s := a) Tryz.underlying82 rfl) ?_
 refine VL.callO (repeat_ct s21 (-1) (a.l.length : Int) hs21 (by omega) (by omega)) rfl (by decide) ?_
 rintro s24 hs24
 refine Zy ?_
 refine Zq (Zq (Zr ?_))
 refine Zm ?_
 refine Zu (q_ln (s := l) Tryz.underlying337 rfl) ?_
 refine Zy ?_
 refine Zb ?_
 refine VC.len l fun hll => ?_
 refine VC.loopK (S := Int × Sv Int) (fun sg => 0 ≤ sg.1 ∧ sg.1 ≤ l.l.length ∧ sg.2.l = fill (List.replicate a.l.length (-1)) (l.l.take sg.1.toNat)) (fun sg => [(0, a.val), (1, b.val), (4, .slice none 0 0), (5, .nilIface), (6, l.val), (7, .nilIface), (8, sg.2.val), (25, l.val), (26, i64 (l.l.length : Int)), (27, i64 sg.1), (8, sg.2.val)]) (fun sg => Ow.star (Sv.own sg.2 3) (Ow.emp)) (fun sg => (l.l.length - sg.1).toNat) (0, s24) [0, 1, 4, 5, 6, 7, 8, 25, 26, 27, 8] (by (try dsimp only); exact ⟨by omega, by omega, by rw [hs24]; simp [fill]⟩) rfl (by (try dsimp only); exact EntO.out) ?_
 rintro ⟨k, o⟩ hI
 show VC _ _ _ _ _ [(0, a.val), (1, b.val), (4, .slice none 0 0), (5, .nilIface), (6, l.val), (7, .nilIface), (8, o.val), (25, l.val), (26, i64 (l.l.length : Int)), (27, i64 k), (8, o.val)] _ (Ow.star (Sv.own o 3) (Ow.emp))
 try dsimp only at hI
 obtain ⟨k0, k1, ho⟩ := hI
 refine Zq (Zr ?_)
 refine Zu (q_lss rfl rfl) ?_
 refine Zl ?_
 refine Zq ?_
 refine VC.cond_dec rfl (fun h28 => ?_) (fun h28 => ?_)
 ·
  refine Zk ?_
  refine Zq (Zb (Zq (Zr ?_)))
  obtain ⟨z29, hz29⟩ : ∃ z, l.l[(k).toNat]? = some z := ⟨_, List.getElem?_eq_getElem (by omega)⟩
  refine Zu (q_ixm (s := l) Tryz.underlying337 sz342 rfl rfl (by omega) (by omega)) ?_
  refine Zu (q_els (s := l) agg342 rfl rfl hz29) ?_
  refine VL.alloc (cs := [i64 0, i64 0, i64 0]) (by kernel_rfl) (by decide) fun b10 => ?_
  refine Zv (vc := [i64 z29.a, i64 z29.b, i64 z29.n]) (cs' := [i64 z29.a, i64 z29.b, i64 z29.n]) rfl sz342 ?_
  refine Zl ?_
  refine Zq ?_
  have hbd := mats_bd a.l b.l z29 (by rw [← hl]; exact List.mem_of_getElem? hz29)
  have hlo : o.l.length = a.l.length := by rw [ho, fill_length]; simp
  refine Zr ?_
  refine Zu (q_field fa342_2 rfl) ?_
  refine Zu (q_fe one3 rfl rfl) ?_
  refine Zy ?_
  refine Zb ?_
  refine VC.loopK (S := Int × Sv Int) (fun sg => 0 ≤ sg.1 ∧ sg.1 ≤ z29.n ∧ sg.2.l = fillN o.l z29 sg.1.toNat) (fun sg => [(0, a.val), (1, b.val), (4, .slice none 0 0), (5, .nilIface), (6, l.val), (7, .nilIface), (25, l.val), (26, i64 (l.l.length : Int)), (27, i64 k), (8, sg.2.val), (10, ptr b10 0), (32, i64 z29.n), (33, i64 sg.1), (8, sg.2.val)]) (fun sg => Ow.star (Sv.own sg.2 3) (Ow.star (Blk b10 [i64 z29.a, i64 z29.b, i64 z29.n] 342) (Ow.emp))) (fun sg => (z29.n - sg.1).toNat) (0, o) [0, 1, 4, 5, 6, 7, 25, 26, 27, 8, 10, 32, 33, 8] (by (try dsimp only); exact ⟨by omega, by omega, rfl⟩) rfl (by (try dsimp only); exact EntO.out) ?_
  rintro ⟨x, p⟩ hI
  show VC _ _ _ _ _ [(0, a.val), (1, b.val), (4, .slice none 0 0), (5, .nilIface), (6, l.val), (7, .nilIface), (25, l.val), (26, i64 (l.l.length : Int)), (27, i64 k), (8, p.val), (10, ptr b10 0), (32, i64 z29.n), (33, i64 x), (8, p.val)] _ (Ow.star (Sv.own p 3) (Ow.star (Blk b10 [i64 z29.a, i64 z29.b, i64 z29.n] 342) (Ow.emp)))
  try dsimp only at hI
  obtain ⟨x0, x1, hp⟩ := hI
  have hlp : p.l.length = o.l.length := by rw [hp, fillN_length]
  refine Zq (Zr ?_)
  refine Zu (q_lss rfl rfl) ?_
  refine Zl ?_
  refine Zq ?_
  refine VC.cond_dec rfl (fun h34 => ?_) (fun h34 => ?_)
  ·
   refine Zk ?_
   refine Zq (Zb (Zq (Zr ?_)))
   refine Zy ?_
   refine Zr ?_
   refine Zm ?_
   refine Zu (q_field fa342_0 rfl) ?_
   refine Zu (q_fe one3 rfl rfl) ?_
   refine Zm ?_
   refine Zu (q_add rfl rfl ⟨by omega, by omega⟩) ?_
   refine Zu (q_field fa342_1 rfl) ?_
   refine Zu (q_fe one3 rfl rfl) ?_
   refine Zm ?_
   refine Zu (q_add rfl rfl ⟨by omega, by omega⟩) ?_
   obtain ⟨z45, hz45⟩ : ∃ z, p.l[((z29.a + x)).toNat]? = some z := ⟨_, List.getElem?_eq_getElem (by omega)⟩
   refine Zu (q_ixo (s := p) Tryz.underlying26 sz3 rfl rfl (by omega) (by omega)) ?_
   refine VL.storeE (s := p) (T := 3) (j := 0) (vc := [i64 (z29.b + x)]) ((z29.b + x) : Int) (by decide) rfl rfl hz45 rfl sz3 rfl rfl (Nat.le_of_ble_eq_true rfl) rfl (fun w0 hw0 haw0 hcw0 hvw0 hbw0 how0 => ?_)
   rw [← hvw0]
   refine Zl ?_
   refine Zr ?_
   refine Zu (q_add rfl rfl ⟨by omega, by omega⟩) ?_
   refine Zm ?_
   refine VL.anyI ((x + 1), w0) [0, 1, 4, 5, 6, 7, 25, 26, 27, 8, 10, 32, 33, 8] (fun _ _ h => h) ?_ rfl (by (try dsimp only); exact EntO.out)
   try dsimp only
   exact ⟨⟨by omega, by omega, fillN_step x0 hp hw0⟩, by omega⟩
  refine Zx ?_
  refine Zr ?_
  refine Zu (q_add rfl rfl ⟨by omega, by omega⟩) ?_
  refine Zm ?_
  refine VL.anyI ((k + 1), p) [0, 1, 4, 5, 6, 7, 8, 25, 26, 27, 8] (fun _ _ h => h) ?_ rfl (by (try dsimp only); exact EntO.out)
  try dsimp only
  exact ⟨⟨by omega, by omega, by rw [fill_snoc k0 hz29, ← ho, hp]; congr 1; omega⟩, by omega⟩
 refine Zx ?_
 refine Zq (Zr ?_)
 refine Zy ?_
 refine VC.shut o 3 (fun _ _ _ _ => trivial) ?_
 exact VC.ret (fin2I (.inr rfl) rfl rfl rfl o rfl ((by rw [ho, List.take_of_length_le (by omega), hl]; rfl)) (fun _ _ => trivial))
end Go.Proofs.YtleokmhhloamaaaGreatDoor
end

section
namespace Go.Proofs.YtleokmhhloamaaaGreatDoor
open Go.RowKit Go.V
open Go.P hiding Str
theorem sz261 : (Tryz.prog.info? 261).map (·.size) = some 5 := by kernel_rfl
theorem fa261_4 : FieldAt Tryz.prog 261 4 4 := fieldAt_sz (n := 0) (f := ⟨_, _, 4, _, _, _, _⟩) Tryz.underlying261 rfl (by kernel_rfl)
theorem sz82 : (Tryz.prog.info? 82).map (·.size) = some 1 := by kernel_rfl
theorem agg261 : AggOf Tryz.prog 261 5 := aggOf_of Tryz.underlying261 rfl (by kernel_rfl)
theorem fa261_3 : FieldAt Tryz.prog 261 3 3 := fieldAt_sz (n := 0) (f := ⟨_, _, 3, _, _, _, _⟩) Tryz.underlying261 rfl (by kernel_rfl)
theorem sz4 : (Tryz.prog.info? 4).map (·.size) = some 1 := by kernel_rfl
set_option maxRecDepth 100000 in
 theorem gap_ct (a b d : Sv Str) (ha : a.l.length ≤ 1048576) (hb : b.l.length ≤ 1048576) (hd : d.l.length ≤ 1048576) :
 Ct Tryz.prog 263 [a.val, b.val, d.val] (a.ok.and (b.ok.and d.ok)) Ow.emp (X := Ck) (fun x => .agg (Dat.enc x).toArray) (fun x => x.pl = gapv a.l b.l d.l) (fun x => x.m) (fun _ => Ow.emp) := by
 refine Zo Tryz.func263 Tryz.ntmps263 fun c => ?_
 refine Zq (Zr ?_)
 refine VL.alloc (cs := [.slice none 0 0, .slice none 0 0, .slice none 0 0, .bool false, .slice none 0 0]) (by kernel_rfl) (by decide) fun b6 => ?_
 refine Zl ?_
 refine Zq (Zr ?_)
 refine Zm ?_
 refine VL.callF (some_ct a (by first | assumption | omega)) rfl (by decide) ?_
 rintro s9 hs9
 refine Zm ?_
 refine VL.callF (some_ct b (by first | assumption | omega)) rfl (by decide) ?_
 rintro s11 hs11
 refine Zm ?_
 refine VL.callF (some_ct d (by first | assumption | omega)) rfl (by decide) ?_
 rintro s13 hs13
 refine Zu (q_build (vs := [(0, s9.val), (1, s11.val), (2, s13.val)]) (cs := #[s9.val, s11.val, s13.val, .bool false, .slice none 0 0]) rfl (by kernel_rfl)) ?_
 refine VL.alloc (cs := [.slice none 0 0, .slice none 0 0, .slice none 0 0, .bool false, .slice none 0 0]) (by kernel_rfl) (by decide) fun b7 => ?_
 refine Zv (vc := [s9.val, s11.val, s13.val, .bool false, .slice none 0 0]) (cs' := [s9.val, s11.val, s13.val, .bool false, .slice none 0 0]) rfl sz261 ?_
 refine Zl ?_
 refine Zq (Zb (Zq (Zr ?_)))
 refine Zy ?_
 refine Zu (q_call (equal_ct b a) rfl (fun _ _ => rfl)) ?_
 refine Zy ?_
 refine VC.cond_dec rfl (fun h16 => ?_) (fun h16 => ?_)
 ·
  refine Zr ?_
  refine Zm ?_
  refine VL.callF (some_ct d (by first | assumption | omega)) rfl (by decide) ?_
  rintro s21 hs21
  refine Zu (q_field fa261_4 rfl) ?_
  refine Zv (vc := [s21.val]) (cs' := [s9.val, s11.val, s13.val, .bool false, s21.val]) rfl sz82 ?_
  refine Zl ?_
  refine Zq (Zr ?_)
  refine Zu (q_fes agg261 rfl rfl) ?_
  refine Zv (vc := [s9.val, s11.val, s13.val, .bool false, s21.val]) (cs' := [s9.val, s11.val, s13.val, .bool false, s21.val]) rfl sz261 ?_
  refine Zl ?_
  exact VC.ret (finC (cs := [s9.val, s11.val, s13.val, .bool false, s21.val]) (.inr rfl) rfl agg261 rfl rfl Rd.blk ⟨s9, s11, s13, false, s21⟩ rfl ((by simp [Ck.pl, gapv, *])) (fun h m => InM.out h m) (fun _ _ => trivial))
 refine Zq (Zq (Zr ?_))
 refine Zy ?_
 refine Zu (q_call (equal_ct d a) rfl (fun _ _ => rfl)) ?_
 refine Zy ?_
 refine VC.cond_dec rfl (fun h23 => ?_) (fun h23 => ?_)
 ·
  refine VC.setv 23 rfl (congrArg Value.bool (decide_eq_true h23)) ?_
  refine Zk ?_
  refine VC.cond_t rfl ?_
  refine Zr ?_
  refine Zm ?_
  refine VL.callF (some_ct b (by first | assumption | omega)) rfl (by decide) ?_
  rintro s31 hs31
  refine Zu (q_field fa261_4 rfl) ?_
  refine Zv (vc := [s31.val]) (cs' := [s9.val, s11.val, s13.val, .bool false, s31.val]) rfl sz82 ?_
  refine Zl ?_
  refine Zq (Zr ?_)
  refine Zu (q_fes agg261 rfl rfl) ?_
  refine Zv (vc := [s9.val, s11.val, s13.val, .bool false, s31.val]) (cs' := [s9.val, s11.val, s13.val, .bool false, s31.val]) rfl sz261 ?_
  refine Zl ?_
  exact VC.ret (finC (cs := [s9.val, s11.val, s13.val, .bool false, s31.val]) (.inr rfl) rfl agg261 rfl rfl Rd.blk ⟨s9, s11, s13, false, s31⟩ rfl ((by simp [Ck.pl, gapv, *])) (fun h m => InM.out h m) (fun _ _ => trivial))
 refine VC.setv 23 rfl (congrArg Value.bool (decide_eq_false h23)) ?_
 refine Zr ?_
 refine Zy ?_
 refine Zu (q_call (equal_ct b d) rfl (fun _ _ => rfl)) ?_
 refine Zy ?_
 refine VC.cond_dec rfl (fun h23 => ?_) (fun h23 => ?_)
 ·
  refine VC.setv 23 rfl (congrArg Value.bool (decide_eq_true h23)) ?_
  refine Zr ?_
  refine Zm ?_
  refine VL.callF (some_ct b (by first | assumption | omega)) rfl (by decide) ?_
  rintro s31 hs31
  refine Zu (q_field fa261_4 rfl) ?_
  refine Zv (vc := [s31.val]) (cs' := [s9.val, s11.val, s13.val, .bool false, s31.val]) rfl sz82 ?_
  refine Zl ?_
  refine Zq (Zr ?_)
  refine Zu (q_fes agg261 rfl rfl) ?_
  refine Zv (vc := [s9.val, s11.val, s13.val, .bool false, s31.val]) (cs' := [s9.val, s11.val, s13.val, .bool false, s31.val]) rfl sz261 ?_
  refine Zl ?_
  exact VC.ret (finC (cs := [s9.val, s11.val, s13.val, .bool false, s31.val]) (.inr rfl) rfl agg261 rfl rfl Rd.blk ⟨s9, s11, s13, false, s31⟩ rfl ((by simp [Ck.pl, gapv, *])) (fun h m => InM.out h m) (fun _ _ => trivial))
 refine VC.setv 23 rfl (congrArg Value.bool (decide_eq_false h23)) ?_
 refine Zr ?_
 refine Zu (q_field fa261_3 rfl) ?_
 refine Zv (vc := [.bool true]) (cs' := [s9.val, s11.val, s13.val, .bool true, .slice none 0 0]) rfl sz4 ?_
 refine Zl ?_
 refine Zq (Zr ?_)
 refine Zu (q_fes agg261 rfl rfl) ?_
 refine Zv (vc := [s9.val, s11.val, s13.val, .bool true, .slice none 0 0]) (cs' := [s9.val, s11.val, s13.val, .bool true, .slice none 0 0]) rfl sz261 ?_
 refine Zl ?_
 exact VC.ret (finC (cs := [s9.val, s11.val, s13.val, .bool true, .slice none 0 0]) (.inr rfl) rfl agg261 rfl rfl Rd.blk ⟨s9, s11, s13, true, ⟨none, 0, []⟩⟩ rfl ((by simp [Ck.pl, gapv, *])) (fun h m => InM.out h m) (fun _ _ => trivial))
end Go.Proofs.YtleokmhhloamaaaGreatDoor
end

section
namespace Go.Proofs.YtleokmhhloamaaaGreatDoor
open Go.RowKit Go.V
open Go.P hiding Str
theorem fa308_3 : FieldAt Tryz.prog 308 3 3 := fieldAt_sz (n := 0) (f := ⟨_, _, 3, _, _, _, _⟩) Tryz.underlying308 rfl (by kernel_rfl)
theorem fa308_6 : FieldAt Tryz.prog 308 6 6 := fieldAt_sz (n := 0) (f := ⟨_, _, 6, _, _, _, _⟩) Tryz.underlying308 rfl (by kernel_rfl)
theorem one253 : OneCell Tryz.prog 253 := oneCell_of Tryz.underlying253 rfl
theorem fa308_0 : FieldAt Tryz.prog 308 0 0 := fieldAt_sz (n := 0) (f := ⟨_, _, 0, _, _, _, _⟩) Tryz.underlying308 rfl (by kernel_rfl)
theorem fa308_1 : FieldAt Tryz.prog 308 1 1 := fieldAt_sz (n := 0) (f := ⟨_, _, 1, _, _, _, _⟩) Tryz.underlying308 rfl (by kernel_rfl)
theorem fa308_4 : FieldAt Tryz.prog 308 4 4 := fieldAt_sz (n := 0) (f := ⟨_, _, 4, _, _, _, _⟩) Tryz.underlying308 rfl (by kernel_rfl)
theorem fa308_2 : FieldAt Tryz.prog 308 2 2 := fieldAt_sz (n := 0) (f := ⟨_, _, 2, _, _, _, _⟩) Tryz.underlying308 rfl (by kernel_rfl)
theorem fa308_5 : FieldAt Tryz.prog 308 5 5 := fieldAt_sz (n := 0) (f := ⟨_, _, 5, _, _, _, _⟩) Tryz.underlying308 rfl (by kernel_rfl)
theorem lit261 : ((Tryz.prog.info? 261).map fun i => (i.size, i.zero.isSome)) = some (5, true) := by kernel_rfl
theorem app261 : ((Tryz.prog.info? 261).map fun i => (i.size, i.bytes, (i.zero.map fun z => z.cells.size))) = some (5, 104, some 5) := by kernel_rfl
theorem sz253 : (Tryz.prog.info? 253).map (·.size) = some 1 := by kernel_rfl
theorem fa308_7 : FieldAt Tryz.prog 308 7 7 := fieldAt_sz (n := 0) (f := ⟨_, _, 7, _, _, _, _⟩) Tryz.underlying308 rfl (by kernel_rfl)
set_option maxHeartbeats 8000000 in
 set_option maxRecDepth 100000 in
 theorem upto_ct (p : Nat) (bv ov tv : Sv Str) (out : Sv Ck) (op : Bool) (i j k i' j' k' : Int) (hput : i < i' ∨ j < j' ∨ k < k') (i0 : 0 ≤ i) (i1 : i ≤ i') (i2 : i' ≤ bv.l.length) (j0 : 0 ≤ j) (j1 : j ≤ j') (j2 : j' ≤ ov.l.length) (k0 : 0 ≤ k) (k1 : k ≤ k') (k2 : k' ≤ tv.l.length) (hb : bv.l.length ≤ 256) (ho : ov.l.length ≤ 256) (ht : tv.l.length ≤ 256) (hl : out.l.length ≤ 1048576) :
 Ct Tryz.prog 225 [ptr p 0, i64 i', i64 j', i64 k'] (bv.ok.and (ov.ok.and tv.ok)) (Ow.star (Blk p [bv.val, ov.val, tv.val, i64 i, i64 j, i64 k, out.val, .bool op] 308) (out.own 261)) (X := Sv Ck × Ck) (fun _ => .tuple #[]) (fun x => x.1.l = out.l ++ [x.2] ∧ x.2.pl = gapv ((bv.l.drop i.toNat).take (i'.toNat - i.toNat)) ((ov.l.drop j.toNat).take (j'.toNat - j.toNat)) ((tv.l.drop k.toNat).take (k'.toNat - k.toNat))) (fun x => x.2.m) (fun x => Ow.star (Blk p [bv.val, ov.val, tv.val, i64 i', i64 j', i64 k', x.1.val, .bool false] 308) (x.1.own 261)) := by
 refine Zo Tryz.func225 Tryz.ntmps225 fun c => ?_
 refine Zq (Zq (Zr ?_))
 refine Zy ?_
 refine Zu (q_nilCheck rfl) ?_
 refine Zu (q_field fa308_3 rfl) ?_
 refine Zu (q_fe one3 rfl rfl) ?_
 refine Zu (q_gtr rfl rfl) ?_
 refine Zm ?_
 refine VL.split_dec 14 rfl (fun h14 => ?_) (fun h14 => ?_)
 ·
  refine Zy ?_
  refine VC.cond_t rfl ?_
  refine Zq ?_
  refine VC.draw [(0, true), (1, true), (2, true), (3, true), (4, true), (5, true), (6, true), (7, true), (8, true), (9, true), (10, true), (11, true), (12, true), (13, true), (14, true), (15, true), (16, true), (17, true), (18, true), (19, true), (20, true), (21, true), (22, true), (23, true), (24, true), (25, true), (26, true), (27, true), (28, true), (29, true), (30, true), (31, true), (32, true), (33, true), (34, true), (35, false), (36, false), (37, false), (38, true), (39, true), (40, false)] mixed (by kernel_rfl) (by kernel_rfl) (by kernel_rfl) ?_
  refine Zw rfl (q_move rfl) ?_
  refine Zw rfl (q_move rfl) ?_
  refine Zw rfl (q_nilCheck rfl) ?_
  refine Zw rfl (q_field fa308_6 rfl) ?_
  refine Zw rfl (q_fe one253 rfl rfl) ?_
  refine Zw rfl (q_move rfl) ?_
  refine Zw rfl (q_nilCheck rfl) ?_
  refine Zw rfl (q_field fa308_0 rfl) ?_
  refine Zw rfl (q_fe one82 rfl rfl) ?_
  refine Zw rfl (q_move rfl) ?_
  refine Zw rfl (q_nilCheck rfl) ?_
  refine Zw rfl (q_field fa308_3 rfl) ?_
  refine Zw rfl (q_fe one3 rfl rfl) ?_
  refine Zw rfl (q_move rfl) ?_
  refine VD.part (s := bv) rfl ((i).toNat) ((i').toNat) Tryz.underlying82 sz9 rfl rfl rfl rfl (by show i = _; omega) (by show i' = _; omega) (.inl rfl) (fun h => by cases h) (by omega) (by omega) (by decide) (fun s44 _ hs44 => ?_)
  refine Zw rfl (q_move rfl) ?_
  refine Zw rfl (q_nilCheck rfl) ?_
  refine Zw rfl (q_field fa308_1 rfl) ?_
  refine Zw rfl (q_fe one82 rfl rfl) ?_
  refine Zw rfl (q_move rfl) ?_
  refine Zw rfl (q_nilCheck rfl) ?_
  refine Zw rfl (q_field fa308_4 rfl) ?_
  refine Zw rfl (q_fe one3 rfl rfl) ?_
  refine Zw rfl (q_move rfl) ?_
  refine VD.part (s := ov) rfl ((j).toNat) ((j').toNat) Tryz.underlying82 sz9 rfl rfl rfl rfl (by show j = _; omega) (by show j' = _; omega) (.inl rfl) (fun h => by cases h) (by omega) (by omega) (by decide) (fun s54 _ hs54 => ?_)
  refine Zw rfl (q_move rfl) ?_
  refine Zw rfl (q_nilCheck rfl) ?_
  refine Zw rfl (q_field fa308_2 rfl) ?_
  refine Zw rfl (q_fe one82 rfl rfl) ?_
  refine Zw rfl (q_move rfl) ?_
  refine Zw rfl (q_nilCheck rfl) ?_
  refine Zw rfl (q_field fa308_5 rfl) ?_
  refine Zw rfl (q_fe one3 rfl rfl) ?_
  refine Zw rfl (q_move rfl) ?_
  refine VD.part (s := tv) rfl ((k).toNat) ((k').toNat) Tryz.underlying82 sz9 rfl rfl rfl rfl (by show k = _; omega) (by show k' = _; omega) (.inl rfl) (fun h => by cases h) (by omega) (by omega) (by decide) (fun s64 _ hs64 => ?_)
  refine VD.one rfl ?_
  refine VL.callF (gap_ct s44 s54 s64 (by rw [hs44]; simp; omega) (by rw [hs54]; simp; omega) (by rw [hs64]; simp; omega)) rfl (by decide) ?_
  rintro x hx
  refine VL.back (D' := [(4, out.val), (3, ptr p 6), (2, ptr p 0)]) (by kernel_rfl) (Pend.cons rfl (q_fe one253 rfl rfl) (Pend.cons rfl (q_field fa308_6 rfl) (Pend.cons rfl (q_nilCheck rfl) (Pend.nil)))) ?_
  refine VD.one rfl ?_
  refine VL.lit (α := Ck) (xs := [.tmp 65]) (vs := [.agg #[x.base.val, x.ours.val, x.theirs.val, .bool x.clash, x.out.val]]) [x] Tryz.underlying253 lit261 (by decide) rfl rfl rfl rfl (by decide) (fun h m z hz => by cases List.mem_singleton.1 hz; exact InM.out (X := x.m) h m) (by decide) (fun s66 hs66 => ?_) (by decide)
  refine VL.back (D' := [(4, out.val), (3, ptr p 6), (2, ptr p 0)]) (by kernel_rfl) (Pend.cons rfl (q_fe one253 rfl rfl) (Pend.cons rfl (q_field fa308_6 rfl) (Pend.cons rfl (q_nilCheck rfl) (Pend.nil)))) ?_
  refine VD.one rfl ?_
  refine VL.app (s := out) (r := s66) Tryz.underlying253 app261 (by decide) rfl Fo.out (by rw [hs66]; simp; omega) (by rw [hs66]; simp; omega) (by decide) (fun s67 hs67 => ?_)
  refine VL.back (D' := []) (by kernel_rfl) (Pend.nil) ?_
  refine Zw rfl (q_nilCheck rfl) ?_
  refine Zw rfl (q_field fa308_6 rfl) ?_
  refine VD.one rfl ?_
  refine Zv (vc := [s67.val]) (cs' := [bv.val, ov.val, tv.val, i64 i, i64 j, i64 k, s67.val, .bool op]) rfl sz253 ?_
  refine VL.back (D' := []) (by kernel_rfl) (Pend.nil) ?_
  refine VD.to (fun _ _ h => h) ?_
  refine Zr ?_
  refine Zm ?_
  refine Zu (q_nilCheck rfl) ?_
  refine Zu (q_field fa308_7 rfl) ?_
  refine Zv (vc := [.bool false]) (cs' := [bv.val, ov.val, tv.val, i64 i, i64 j, i64 k, s67.val, .bool false]) rfl sz4 ?_
  refine Zl ?_
  refine Zr ?_
  refine Zy ?_
  refine Zu (q_nilCheck rfl) ?_
  refine Zu (q_field fa308_3 rfl) ?_
  refine Zv (vc := [i64 i']) (cs' := [bv.val, ov.val, tv.val, i64 i', i64 j, i64 k, s67.val, .bool false]) rfl sz3 ?_
  refine Zu (q_nilCheck rfl) ?_
  refine Zu (q_field fa308_4 rfl) ?_
  refine Zv (vc := [i64 j']) (cs' := [bv.val, ov.val, tv.val, i64 i', i64 j', i64 k, s67.val, .bool false]) rfl sz3 ?_
  refine Zu (q_nilCheck rfl) ?_
  refine Zu (q_field fa308_5 rfl) ?_
  refine Zv (vc := [i64 k']) (cs' := [bv.val, ov.val, tv.val, i64 i', i64 j', i64 k', s67.val, .bool false]) rfl sz3 ?_
  exact VL.nil (fin0I (.inl rfl) rfl (s67, x) rfl (⟨by rw [hs67, hs66], by rw [hx, hs44, hs54, hs64]⟩) EntO.out)
 refine Zy ?_
 refine Zh (q_nilCheck rfl) ?_
 refine Zh (q_field fa308_4 rfl) ?_
 refine Zh (q_fe one3 rfl rfl) ?_
 refine Zh (q_gtr rfl rfl) ?_
 refine Zy ?_
 refine VL.split_dec 22 rfl (fun h22 => ?_) (fun h22 => ?_)
 ·
  refine Zy ?_
  refine VC.cond_t rfl ?_
  refine Zq ?_
  refine VC.draw [(0, true), (1, true), (2, true), (3, true), (4, true), (5, true), (6, true), (7, true), (8, true), (9, true), (10, true), (11, true), (12, true), (13, true), (14, true), (15, true), (16, true), (17, true), (18, true), (19, true), (20, true), (21, true), (22, true), (23, true), (24, true), (25, true), (26, true), (27, true), (28, true), (29, true), (30, true), (31, true), (32, true), (33, true), (34, true), (35, false), (36, false), (37, false), (38, true), (39, true), (40, false)] mixed (by kernel_rfl) (by kernel_rfl) (by kernel_rfl) ?_
  refine Zw rfl (q_move rfl) ?_
  refine Zw rfl (q_move rfl) ?_
  refine Zw rfl (q_nilCheck rfl) ?_
  refine Zw rfl (q_field fa308_6 rfl) ?_
  refine Zw rfl (q_fe one253 rfl rfl) ?_
  refine Zw rfl (q_move rfl) ?_
  refine Zw rfl (q_nilCheck rfl) ?_
  refine Zw rfl (q_field fa308_0 rfl) ?_
  refine Zw rfl (q_fe one82 rfl rfl) ?_
  refine Zw rfl (q_move rfl) ?_
  refine Zw rfl (q_nilCheck rfl) ?_
  refine Zw rfl (q_field fa308_3 rfl) ?_
  refine Zw rfl (q_fe one3 rfl rfl) ?_
  refine Zw rfl (q_move rfl) ?_
  refine VD.part (s := bv) rfl ((i).toNat) ((i').toNat) Tryz.underlying82 sz9 rfl rfl rfl rfl (by show i = _; omega) (by show i' = _; omega) (.inl rfl) (fun h => by cases h) (by omega) (by omega) (by decide) (fun s44 _ hs44 => ?_)
  refine Zw rfl (q_move rfl) ?_
  refine Zw rfl (q_nilCheck rfl) ?_
  refine Zw rfl (q_field fa308_1 rfl) ?_
  refine Zw rfl (q_fe one82 rfl rfl) ?_
  refine Zw rfl (q_move rfl) ?_
  refine Zw rfl (q_nilCheck rfl) ?_
  refine Zw rfl (q_field fa308_4 rfl) ?_
  refine Zw rfl (q_fe one3 rfl rfl) ?_
  refine Zw rfl (q_move rfl) ?_
  refine VD.part (s := ov) rfl ((j).toNat) ((j').toNat) Tryz.underlying82 sz9 rfl rfl rfl rfl (by show j = _; omega) (by show j' = _; omega) (.inl rfl) (fun h => by cases h) (by omega) (by omega) (by decide) (fun s54 _ hs54 => ?_)
  refine Zw rfl (q_move rfl) ?_
  refine Zw rfl (q_nilCheck rfl) ?_
  refine Zw rfl (q_field fa308_2 rfl) ?_
  refine Zw rfl (q_fe one82 rfl rfl) ?_
  refine Zw rfl (q_move rfl) ?_
  refine Zw rfl (q_nilCheck rfl) ?_
  refine Zw rfl (q_field fa308_5 rfl) ?_
  refine Zw rfl (q_fe one3 rfl rfl) ?_
  refine Zw rfl (q_move rfl) ?_
  refine VD.part (s := tv) rfl ((k).toNat) ((k').toNat) Tryz.underlying82 sz9 rfl rfl rfl rfl (by show k = _; omega) (by show k' = _; omega) (.inl rfl) (fun h => by cases h) (by omega) (by omega) (by decide) (fun s64 _ hs64 => ?_)
  refine VD.one rfl ?_
  refine VL.callF (gap_ct s44 s54 s64 (by rw [hs44]; simp; omega) (by rw [hs54]; simp; omega) (by rw [hs64]; simp; omega)) rfl (by decide) ?_
  rintro x hx
  refine VL.back (D' := [(4, out.val), (3, ptr p 6), (2, ptr p 0)]) (by kernel_rfl) (Pend.cons rfl (q_fe one253 rfl rfl) (Pend.cons rfl (q_field fa308_6 rfl) (Pend.cons rfl (q_nilCheck rfl) (Pend.nil)))) ?_
  refine VD.one rfl ?_
  refine VL.lit (α := Ck) (xs := [.tmp 65]) (vs := [.agg #[x.base.val, x.ours.val, x.theirs.val, .bool x.clash, x.out.val]]) [x] Tryz.underlying253 lit261 (by decide) rfl rfl rfl rfl (by decide) (fun h m z hz => by cases List.mem_singleton.1 hz; exact InM.out (X := x.m) h m) (by decide) (fun s66 hs66 => ?_) (by decide)
  refine VL.back (D' := [(4, out.val), (3, ptr p 6), (2, ptr p 0)]) (by kernel_rfl) (Pend.cons rfl (q_fe one253 rfl rfl) (Pend.cons rfl (q_field fa308_6 rfl) (Pend.cons rfl (q_nilCheck rfl) (Pend.nil)))) ?_
  refine VD.one rfl ?_
  refine VL.app (s := out) (r := s66) Tryz.underlying253 app261 (by decide) rfl Fo.out (by rw [hs66]; simp; omega) (by rw [hs66]; simp; omega) (by decide) (fun s67 hs67 => ?_)
  refine VL.back (D' := []) (by kernel_rfl) (Pend.nil) ?_
  refine Zw rfl (q_nilCheck rfl) ?_
  refine Zw rfl (q_field fa308_6 rfl) ?_
  refine VD.one rfl ?_
  refine Zv (vc := [s67.val]) (cs' := [bv.val, ov.val, tv.val, i64 i, i64 j, i64 k, s67.val, .bool op]) rfl sz253 ?_
  refine VL.back (D' := []) (by kernel_rfl) (Pend.nil) ?_
  refine VD.to (fun _ _ h => h) ?_
  refine Zr ?_
  refine Zm ?_
  refine Zu (q_nilCheck rfl) ?_
  refine Zu (q_field fa308_7 rfl) ?_
  refine Zv (vc := [.bool false]) (cs' := [bv.val, ov.val, tv.val, i64 i, i64 j, i64 k, s67.val, .bool false]) rfl sz4 ?_
  refine Zl ?_
  refine Zr ?_
  refine Zy ?_
  refine Zu (q_nilCheck rfl) ?_
  refine Zu (q_field fa308_3 rfl) ?_
  refine Zv (vc := [i64 i']) (cs' := [bv.val, ov.val, tv.val, i64 i', i64 j, i64 k, s67.val, .bool false]) rfl sz3 ?_
  refine Zu (q_nilCheck rfl) ?_
  refine Zu (q_field fa308_4 rfl) ?_
  refine Zv (vc := [i64 j']) (cs' := [bv.val, ov.val, tv.val, i64 i', i64 j', i64 k, s67.val, .bool false]) rfl sz3 ?_
  refine Zu (q_nilCheck rfl) ?_
  refine Zu (q_field fa308_5 rfl) ?_
  refine Zv (vc := [i64 k']) (cs' := [bv.val, ov.val, tv.val, i64 i', i64 j', i64 k', s67.val, .bool false]) rfl sz3 ?_
  exact VL.nil (fin0I (.inl rfl) rfl (s67, x) rfl (⟨by rw [hs67, hs66], by rw [hx, hs44, hs54, hs64]⟩) EntO.out)
 refine Zy ?_
 refine Zh (q_nilCheck rfl) ?_
 refine Zh (q_field fa308_5 rfl) ?_
 refine Zh (q_fe one3 rfl rfl) ?_
 refine Zh (q_gtr rfl rfl) ?_
 refine Zy ?_
 refine VC.cond_dec rfl (fun h29 => ?_) (fun h29 => ?_)
 ·
  refine Zq ?_
  refine VC.draw [(0, true), (1, true), (2, true), (3, true), (4, true), (5, true), (6, true), (7, true), (8, true), (9, true), (10, true), (11, true), (12, true), (13, true), (14, true), (15, true), (16, true), (17, true), (18, true), (19, true), (20, true), (21, true), (22, true), (23, true), (24, true), (25, true), (26, true), (27, true), (28, true), (29, true), (30, true), (31, true), (32, true), (33, true), (34, true), (35, false), (36, false), (37, false), (38, true), (39, true), (40, false)] mixed (by kernel_rfl) (by kernel_rfl) (by kernel_rfl) ?_
  refine Zw rfl (q_move rfl) ?_
  refine Zw rfl (q_move rfl) ?_
  refine Zw rfl (q_nilCheck rfl) ?_
  refine Zw rfl (q_field fa308_6 rfl) ?_
  refine Zw rfl (q_fe one253 rfl rfl) ?_
  refine Zw rfl (q_move rfl) ?_
  refine Zw rfl (q_nilCheck rfl) ?_
  refine Zw rfl (q_field fa308_0 rfl) ?_
  refine Zw rfl (q_fe one82 rfl rfl) ?_
  refine Zw rfl (q_move rfl) ?_
  refine Zw rfl (q_nilCheck rfl) ?_
  refine Zw rfl (q_field fa308_3 rfl) ?_
  refine Zw rfl (q_fe one3 rfl rfl) ?_
  refine Zw rfl (q_move rfl) ?_
  refine VD.part (s := bv) rfl ((i).toNat) ((i').toNat) Tryz.underlying82 sz9 rfl rfl rfl rfl (by show i = _; omega) (by show i' = _; omega) (.inl rfl) (fun h => by cases h) (by omega) (by omega) (by decide) (fun s44 _ hs44 => ?_)
  refine Zw rfl (q_move rfl) ?_
  refine Zw rfl (q_nilCheck rfl) ?_
  refine Zw rfl (q_field fa308_1 rfl) ?_
  refine Zw rfl (q_fe one82 rfl rfl) ?_
  refine Zw rfl (q_move rfl) ?_
  refine Zw rfl (q_nilCheck rfl) ?_
  refine Zw rfl (q_field fa308_4 rfl) ?_
  refine Zw rfl (q_fe one3 rfl rfl) ?_
  refine Zw rfl (q_move rfl) ?_
  refine VD.part (s := ov) rfl ((j).toNat) ((j').toNat) Tryz.underlying82 sz9 rfl rfl rfl rfl (by show j = _; omega) (by show j' = _; omega) (.inl rfl) (fun h => by cases h) (by omega) (by omega) (by decide) (fun s54 _ hs54 => ?_)
  refine Zw rfl (q_move rfl) ?_
  refine Zw rfl (q_nilCheck rfl) ?_
  refine Zw rfl (q_field fa308_2 rfl) ?_
  refine Zw rfl (q_fe one82 rfl rfl) ?_
  refine Zw rfl (q_move rfl) ?_
  refine Zw rfl (q_nilCheck rfl) ?_
  refine Zw rfl (q_field fa308_5 rfl) ?_
  refine Zw rfl (q_fe one3 rfl rfl) ?_
  refine Zw rfl (q_move rfl) ?_
  refine VD.part (s := tv) rfl ((k).toNat) ((k').toNat) Tryz.underlying82 sz9 rfl rfl rfl rfl (by show k = _; omega) (by show k' = _; omega) (.inl rfl) (fun h => by cases h) (by omega) (by omega) (by decide) (fun s64 _ hs64 => ?_)
  refine VD.one rfl ?_
  refine VL.callF (gap_ct s44 s54 s64 (by rw [hs44]; simp; omega) (by rw [hs54]; simp; omega) (by rw [hs64]; simp; omega)) rfl (by decide) ?_
  rintro x hx
  refine VL.back (D' := [(4, out.val), (3, ptr p 6), (2, ptr p 0)]) (by kernel_rfl) (Pend.cons rfl (q_fe one253 rfl rfl) (Pend.cons rfl (q_field fa308_6 rfl) (Pend.cons rfl (q_nilCheck rfl) (Pend.nil)))) ?_
  refine VD.one rfl ?_
  refine VL.lit (α := Ck) (xs := [.tmp 65]) (vs := [.agg #[x.base.val, x.ours.val, x.theirs.val, .bool x.clash, x.out.val]]) [x] Tryz.underlying253 lit261 (by decide) rfl rfl rfl rfl (by decide) (fun h m z hz => by cases List.mem_singleton.1 hz; exact InM.out (X := x.m) h m) (by decide) (fun s66 hs66 => ?_) (by decide)
  refine VL.back (D' := [(4, out.val), (3, ptr p 6), (2, ptr p 0)]) (by kernel_rfl) (Pend.cons rfl (q_fe one253 rfl rfl) (Pend.cons rfl (q_field fa308_6 rfl) (Pend.cons rfl (q_nilCheck rfl) (Pend.nil)))) ?_
  refine VD.one rfl ?_
  refine VL.app (s := out) (r := s66) Tryz.underlying253 app261 (by decide) rfl Fo.out (by rw [hs66]; simp; omega) (by rw [hs66]; simp; omega) (by decide) (fun s67 hs67 => ?_)
  refine VL.back (D' := []) (by kernel_rfl) (Pend.nil) ?_
  refine Zw rfl (q_nilCheck rfl) ?_
  refine Zw rfl (q_field fa308_6 rfl) ?_
  refine VD.one rfl ?_
  refine Zv (vc := [s67.val]) (cs' := [bv.val, ov.val, tv.val, i64 i, i64 j, i64 k, s67.val, .bool op]) rfl sz253 ?_
  refine VL.back (D' := []) (by kernel_rfl) (Pend.nil) ?_
  refine VD.to (fun _ _ h => h) ?_
  refine Zr ?_
  refine Zm ?_
  refine Zu (q_nilCheck rfl) ?_
  refine Zu (q_field fa308_7 rfl) ?_
  refine Zv (vc := [.bool false]) (cs' := [bv.val, ov.val, tv.val, i64 i, i64 j, i64 k, s67.val, .bool false]) rfl sz4 ?_
  refine Zl ?_
  refine Zr ?_
  refine Zy ?_
  refine Zu (q_nilCheck rfl) ?_
  refine Zu (q_field fa308_3 rfl) ?_
  refine Zv (vc := [i64 i']) (cs' := [bv.val, ov.val, tv.val, i64 i', i64 j, i64 k, s67.val, .bool false]) rfl sz3 ?_
  refine Zu (q_nilCheck rfl) ?_
  refine Zu (q_field fa308_4 rfl) ?_
  refine Zv (vc := [i64 j']) (cs' := [bv.val, ov.val, tv.val, i64 i', i64 j', i64 k, s67.val, .bool false]) rfl sz3 ?_
  refine Zu (q_nilCheck rfl) ?_
  refine Zu (q_field fa308_5 rfl) ?_
  refine Zv (vc := [i64 k']) (cs' := [bv.val, ov.val, tv.val, i64 i', i64 j', i64 k', s67.val, .bool false]) rfl sz3 ?_
  exact VL.nil (fin0I (.inl rfl) rfl (s67, x) rfl (⟨by rw [hs67, hs66], by rw [hx, hs44, hs54, hs64]⟩) EntO.out)
 exact absurd hput (by omega)
end Go.Proofs.YtleokmhhloamaaaGreatDoor
end

section
namespace Go.Proofs.YtleokmhhloamaaaGreatDoor
open Go.RowKit Go.V
open Go.P hiding Str
set_option maxHeartbeats 8000000 in
 set_option maxRecDepth 100000 in
 theorem upto_none (p : Nat) (bv ov tv : Sv Str) (out : Sv Ck) (op : Bool) (i j k i' j' k' : Int) (hi : ¬ i < i') (hj : ¬ j < j') (hk : ¬ k < k') :
 Ct Tryz.prog 225 [ptr p 0, i64 i', i64 j', i64 k'] Mo.tt (Blk p [bv.val, ov.val, tv.val, i64 i, i64 j, i64 k, out.val, .bool op] 308) (X := Unit) (fun _ => .tuple #[]) (fun _ => True) (fun _ => Mo.tt) (fun _ => Blk p [bv.val, ov.val, tv.val, i64 i', i64 j', i64 k', out.val, .bool op] 308) := by
 refine Zo Tryz.func225 Tryz.ntmps225 fun c => ?_
 refine Zq (Zq (Zr ?_))
 refine Zy ?_
 refine Zu (q_nilCheck rfl) ?_
 refine Zu (q_field fa308_3 rfl) ?_
 refine Zu (q_fe one3 rfl rfl) ?_
 refine Zu (q_gtr rfl rfl) ?_
 refine Zm ?_
 refine VL.split_dec 14 rfl (fun h14 => ?_) (fun h14 => ?_)
 ·
  exact absurd h14 hi
 refine Zy ?_
 refine Zh (q_nilCheck rfl) ?_
 refine Zh (q_field fa308_4 rfl) ?_
 refine Zh (q_fe one3 rfl rfl) ?_
 refine Zh (q_gtr rfl rfl) ?_
 refine Zy ?_
 refine VL.split_dec 22 rfl (fun h22 => ?_) (fun h22 => ?_)
 ·
  exact absurd h22 hj
 refine Zy ?_
 refine Zh (q_nilCheck rfl) ?_
 refine Zh (q_field fa308_5 rfl) ?_
 refine Zh (q_fe one3 rfl rfl) ?_
 refine Zh (q_gtr rfl rfl) ?_
 refine Zy ?_
 refine VC.cond_dec rfl (fun h29 => ?_) (fun h29 => ?_)
 ·
  exact absurd h29 hk
 refine Zk ?_
 refine Zr ?_
 refine Zy ?_
 refine Zu (q_nilCheck rfl) ?_
 refine Zu (q_field fa308_3 rfl) ?_
 refine Zv (vc := [i64 i']) (cs' := [bv.val, ov.val, tv.val, i64 i', i64 j, i64 k, out.val, .bool op]) rfl sz3 ?_
 refine Zu (q_nilCheck rfl) ?_
 refine Zu (q_field fa308_4 rfl) ?_
 refine Zv (vc := [i64 j']) (cs' := [bv.val, ov.val, tv.val, i64 i', i64 j', i64 k, out.val, .bool op]) rfl sz3 ?_
 refine Zu (q_nilCheck rfl) ?_
 refine Zu (q_field fa308_5 rfl) ?_
 refine Zv (vc := [i64 k']) (cs' := [bv.val, ov.val, tv.val, i64 i', i64 j', i64 k', out.val, .bool op]) rfl sz3 ?_
 exact VL.nil (fin0I (.inl rfl) rfl () rfl (trivial) EntO.out)
end Go.Proofs.YtleokmhhloamaaaGreatDoor
end

section
namespace Go.Proofs.YtleokmhhloamaaaGreatDoor
open Go.RowKit Go.V
open Go.P hiding Str
abbrev Zp (o : Sv Ck) (n : Nat) : Value := ptr o.b (o.o + (((o.l.length : Int) - 1).toNat) * Dat.sz Ck + n)
abbrev Zlt (n : Nat) : Array Bool := ((List.range 44).map fun i => n.testBit i).toArray
theorem one4 : OneCell Tryz.prog 4 := oneCell_of Tryz.underlying4 rfl
theorem fa261_0 : FieldAt Tryz.prog 261 0 0 := fieldAt_sz (n := 0) (f := ⟨_, _, 0, _, _, _, _⟩) Tryz.underlying261 rfl (by kernel_rfl)
theorem fa261_1 : FieldAt Tryz.prog 261 1 1 := fieldAt_sz (n := 0) (f := ⟨_, _, 1, _, _, _, _⟩) Tryz.underlying261 rfl (by kernel_rfl)
theorem fa261_2 : FieldAt Tryz.prog 261 2 2 := fieldAt_sz (n := 0) (f := ⟨_, _, 2, _, _, _, _⟩) Tryz.underlying261 rfl (by kernel_rfl)
theorem lit9 : ((Tryz.prog.info? 9).map fun i => (i.size, i.zero.isSome)) = some (1, true) := by kernel_rfl
set_option maxHeartbeats 8000000 in
 set_option maxRecDepth 100000 in
 theorem kept_ct (p : Nat) (bv ov tv : Sv Str) (out : Sv Ck) (op : Bool) (fr : List Ck) (x : Ck) (line : Str) (i j k : Int) (hout : op = true → out.l = fr ++ [x]) (hnew : op = false → fr = out.l ∧ x = (⟨⟨none, 0, []⟩, ⟨none, 0, []⟩, ⟨none, 0, []⟩, false, ⟨none, 0, []⟩⟩ : Ck)) (hline : bv.l[i.toNat]? = some line) (i0 : 0 ≤ i) (j0 : 0 ≤ j) (k0 : 0 ≤ k) (i1 : i ≤ 1048576) (j1 : j ≤ 1048576) (k1 : k ≤ 1048576) (hl : out.l.length ≤ 1048576)
 (hx1 : x.base.l.length ≤ 1048576) (hx2 : x.ours.l.length ≤ 1048576) (hx3 : x.theirs.l.length ≤ 1048576) (hx4 : x.out.l.length ≤ 1048576) :
 Ct Tryz.prog 226 [ptr p 0] bv.ok (Ow.star (Blk p [bv.val, ov.val, tv.val, i64 i, i64 j, i64 k, out.val, .bool op] 308) (Ow.star (out.own 261) (OpenO op x))) (X := Sv Ck × Ck) (fun _ => .tuple #[]) (fun x' => x'.1.l = fr ++ [x'.2] ∧ x'.2.base.l = x.base.l ++ [line] ∧ x'.2.ours.l = x.ours.l ++ [line] ∧ x'.2.theirs.l = x.theirs.l ++ [line] ∧ x'.2.out.l = x.out.l ++ [line] ∧ x'.2.clash = x.clash) (fun _ => Mo.tt) (fun x => Ow.star (Blk p [bv.val, ov.val, tv.val, i64 (i + 1), i64 (j + 1), i64 (k + 1), x.1.val, .bool true] 308) (Ow.star (x.1.own 261) (Ow.star (x.2.base.own 9) (Ow.star (x.2.ours.own 9) (Ow.star (x.2.theirs.own 9) (x.2.out.own 9)))))) := by
 refine Zo Tryz.func226 Tryz.ntmps226 fun c => ?_
 refine Zq ?_
 obtain ⟨hi2, _⟩ := List.getElem?_eq_some_iff.1 hline
 refine VC.draw ((List.range 11).map fun k => (k, true)) mixed (by kernel_rfl) (by kernel_rfl) (by kernel_rfl) ?_
 refine Zw rfl (q_move rfl) ?_
 refine Zw rfl (q_nilCheck rfl) ?_
 refine Zw rfl (q_field fa308_0 rfl) ?_
 refine Zw rfl (q_fe one82 rfl rfl) ?_
 refine Zw rfl (q_move rfl) ?_
 refine Zw rfl (q_nilCheck rfl) ?_
 refine Zw rfl (q_field fa308_3 rfl) ?_
 refine Zw rfl (q_fe one3 rfl rfl) ?_
 refine Zw rfl (q_ixm (s := bv) Tryz.underlying82 sz9 rfl rfl (by omega) (by omega)) ?_
 refine Zw rfl (q_el (s := bv) one9 rfl hline rfl) ?_
 refine Zw rfl (q_assign rfl) ?_
 refine VD.to (fun _ _ h => h) ?_
 refine VC.cut (S := Sv Ck) (fun sg => sg.l = fr ++ [x] ∧ sg.l.length ≤ 1048577) (fun sg => [(0, ptr p 0), (2, str line)]) (fun sg => Mo.tt) (fun sg => Ow.star (Blk p [bv.val, ov.val, tv.val, i64 i, i64 j, i64 k, sg.val, .bool true] 308) (Ow.star (Sv.own sg 261) (Ow.star (Sv.own x.base 9) (Ow.star (Sv.own x.ours 9) (Ow.star (Sv.own x.theirs 9) (Ow.star (Sv.own x.out 9) (Ow.emp))))))) ?_ ?_
 ·
  refine Zq (Zr ?_)
  refine Zm ?_
  refine Zu (q_nilCheck rfl) ?_
  refine Zu (q_field fa308_7 rfl) ?_
  refine Zu (q_fe one4 rfl rfl) ?_
  refine Zu (q_not rfl) ?_
  refine Zl ?_
  refine VC.cond rfl (fun h18 => ?_) (fun h18 => ?_)
  ·
   obtain rfl : op = false := by simpa using h18
   obtain ⟨hfr, hxn⟩ := hnew rfl
   refine VC.mono (fun _ h => h) (E' := Ow.star (Blk p [bv.val, ov.val, tv.val, i64 i, i64 j, i64 k, out.val, .bool false] 308) (Ow.star (Sv.own out 261) (Ow.emp))) (fun _ h => h) ?_
   refine Zq (Zr ?_)
   refine Zy ?_
   refine Zu (q_nilCheck rfl) ?_
   refine Zu (q_field fa308_6 rfl) ?_
   refine Zu (q_fe one253 rfl rfl) ?_
   refine Zu (q_build (vs := []) (cs := #[.slice none 0 0, .slice none 0 0, .slice none 0 0, .bool false, .slice none 0 0]) rfl (by kernel_rfl)) ?_
   refine VL.lit (α := Ck) (xs := [.tmp 24]) (vs := [.agg #[.slice none 0 0, .slice none 0 0, .slice none 0 0, .bool false, .slice none 0 0]]) [(⟨⟨none, 0, []⟩, ⟨none, 0, []⟩, ⟨none, 0, []⟩, false, ⟨none, 0, []⟩⟩ : Ck)] Tryz.underlying253 lit261 (by decide) rfl rfl rfl rfl (by decide) (fun h m z hz => by cases List.mem_singleton.1 hz; exact InM.out (M := Mo.tt) (X := Ck.m (⟨⟨none, 0, []⟩, ⟨none, 0, []⟩, ⟨none, 0, []⟩, false, ⟨none, 0, []⟩⟩ : Ck)) h trivial) (by decide) (fun s25 hs25 => ?_) (by decide)
   refine VL.app (s := out) (r := s25) Tryz.underlying253 app261 (by decide) rfl Fo.out (by rw [hs25]; simp; omega) (by rw [hs25]; simp; omega) (by decide) (fun s26 hs26 => ?_)
   refine Zu (q_nilCheck rfl) ?_
   refine Zu (q_field fa308_6 rfl) ?_
   refine Zv (vc := [s26.val]) (cs' := [bv.val, ov.val, tv.val, i64 i, i64 j, i64 k, s26.val, .bool false]) rfl sz253 ?_
   refine Zl ?_
   refine VC.nilO x.out 9 ⟨by rw [hxn], by rw [hxn]⟩ ?_
   refine VC.nilO x.theirs 9 ⟨by rw [hxn], by rw [hxn]⟩ ?_
   refine VC.nilO x.ours 9 ⟨by rw [hxn], by rw [hxn]⟩ ?_
   refine VC.nilO x.base 9 ⟨by rw [hxn], by rw [hxn]⟩ ?_
   refine Zr ?_
   refine Zm ?_
   refine Zu (q_nilCheck rfl) ?_
   refine Zu (q_field fa308_7 rfl) ?_
   refine Zv (vc := [.bool true]) (cs' := [bv.val, ov.val, tv.val, i64 i, i64 j, i64 k, s26.val, .bool true]) rfl sz4 ?_
   refine VL.anyI s26 [0, 2] (fun _ _ h => h) ?_ rfl (by (try dsimp only); exact EntO.out)
   try dsimp only
   exact ⟨by rw [hs26, hs25, hfr, hxn], by rw [hs26, hs25]; simp; omega⟩
  obtain rfl : op = true := by simpa using h18
  refine VC.mono (fun _ h => h) (E' := Ow.star (Blk p [bv.val, ov.val, tv.val, i64 i, i64 j, i64 k, out.val, .bool true] 308) (Ow.star (out.own 261) (Ow.star (x.base.own 9) (Ow.star (x.ours.own 9) (Ow.star (x.theirs.own 9) (x.out.own 9)))))) (fun _ h => h) ?_
  refine VC.skip_anyI out [0, 2] (fun _ _ h => h) ?_ rfl (by (try dsimp only); exact EntO.out)
  try dsimp only
  exact ⟨hout rfl, by omega⟩
 rintro o hI
 try dsimp only at hI
 clear hout hnew
 obtain ⟨hout, hol⟩ := hI
 refine Zq ?_
 refine VC.draw ((List.range 12).map fun k => (k, true)) mixed (by kernel_rfl) (by kernel_rfl) (by kernel_rfl) ?_
 refine Zw rfl (q_move rfl) ?_
 refine Zw rfl (q_nilCheck rfl) ?_
 refine Zw rfl (q_field fa308_6 rfl) ?_
 refine Zw rfl (q_fe one253 rfl rfl) ?_
 refine Zw rfl (q_move rfl) ?_
 refine Zw rfl (q_nilCheck rfl) ?_
 refine Zw rfl (q_field fa308_6 rfl) ?_
 refine Zw rfl (q_fe one253 rfl rfl) ?_
 refine Zw rfl (q_ln (s := o) Tryz.underlying253 rfl) ?_
 refine Zw rfl (q_sub rfl rfl ⟨by omega, by omega⟩) ?_
 have hx := last_get hout
 have hpos : 0 < o.l.length := by rw [hout]; simp
 refine Zw rfl (q_ixo (s := o) Tryz.underlying253 sz261 rfl rfl (by omega) (by omega)) ?_
 refine Zw rfl (q_assign rfl) ?_
 refine VD.to (fun _ _ h => h) ?_
 refine Zq ?_
 refine VC.withM Mo.tt ?_
 refine VC.drawG (n := 20) (listed := (Zlt 1048377855)) [(0, true), (1, true), (2, true), (3, true), (4, true), (5, true), (6, true), (7, true), (8, true), (11, true), (12, true), (13, true), (14, true), (15, true), (18, true), (19, true), (20, true), (21, true), (22, true), (25, true), (26, true), (27, true), (28, true), (29, true)] mixed (by kernel_rfl) (by kernel_rfl) (by kernel_rfl) (by kernel_rfl) ?_
 refine VD.q rfl (q_move rfl) (by decide) ?_
 refine VD.q rfl (q_move rfl) (by decide) ?_
 refine VD.q rfl (q_move rfl) (by decide) ?_
 refine VD.q rfl (q_move rfl) (by decide) ?_
 refine VD.q rfl (q_move rfl) (by decide) ?_
 refine VD.q rfl (q_nilCheck rfl) (by decide) ?_
 refine VD.q rfl (q_field fa261_0 rfl) (by decide) ?_
 refine VD.q rfl (q_elfo (s := o) one82 rfl hx rfl) (by decide) ?_
 refine VD.q rfl (q_move rfl) (by decide) ?_
 refine VD.q rfl (q_move rfl) (by decide) ?_
 refine VD.q rfl (q_nilCheck rfl) (by decide) ?_
 refine VD.q rfl (q_field fa261_1 rfl) (by decide) ?_
 refine VD.q rfl (q_elfo (s := o) one82 rfl hx rfl) (by decide) ?_
 refine VD.q rfl (q_move rfl) (by decide) ?_
 refine VD.q rfl (q_move rfl) (by decide) ?_
 refine VD.q rfl (q_nilCheck rfl) (by decide) ?_
 refine VD.q rfl (q_field fa261_2 rfl) (by decide) ?_
 refine VD.q rfl (q_elfo (s := o) one82 rfl hx rfl) (by decide) ?_
 refine VD.q rfl (q_move rfl) (by decide) ?_
 refine VD.q rfl (q_move rfl) (by decide) ?_
 refine VD.q rfl (q_nilCheck rfl) (by decide) ?_
 refine VD.q rfl (q_field fa261_4 rfl) (by decide) ?_
 refine VD.q rfl (q_elfo (s := o) one82 rfl hx rfl) (by decide) ?_
 refine VD.q rfl (q_move rfl) (by decide) ?_
 refine VD.toG fun hc => ?_
 refine VG.via (S := Sv Str × Sv Str × Sv Str × Sv Str) (fun sg => sg.1.l = x.base.l ++ [line] ∧ sg.2.1.l = x.ours.l ++ [line] ∧ sg.2.2.1.l = x.theirs.l ++ [line] ∧ sg.2.2.2.l = x.out.l ++ [line]) 12 (fun sg => []) (Zlt 4294967295) (fun sg => [(0, ptr p 0), (2, str line), (3, Zp o 0), (43, Zp o 0), (44, Zp o 0), (45, Zp o 0), (46, Zp o 0), (53, sg.1.val), (60, sg.2.1.val), (67, sg.2.2.1.val), (74, sg.2.2.2.val)]) (fun sg => Mo.tt) (fun sg => Ow.star (Blk p [bv.val, ov.val, tv.val, i64 i, i64 j, i64 k, o.val, .bool true] 308) (Ow.star (Sv.own o 261) (Ow.star (Sv.own sg.1 9) (Ow.star (Sv.own sg.2.1 9) (Ow.star (Sv.own sg.2.2.1 9) (Ow.star (Sv.own sg.2.2.2 9) (Ow.emp))))))) ?_ fun key_9_10_16_17_23_24_30_31 => ?_
 ·
  rintro ⟨s53, s60, s67, s74⟩ ⟨hs53, hs60, hs67, hs74⟩
  try dsimp only at hs53 hs60 hs67 hs74
  refine VG.ord [(32, true), (33, true), (34, false), (35, true), (36, true), (37, false), (38, true), (39, true), (40, false), (41, true), (42, true), (43, false)] (by kernel_rfl) (closed_of (by kernel_rfl)) (by kernel_rfl) ?_
  refine Zw rfl (q_nilCheck rfl) ?_
  refine Zw rfl (q_field fa261_0 rfl) ?_
  refine VD.one rfl ?_
  refine VL.storeE (s := o) (T := 261) (j := 0) (vc := [s53.val]) (⟨s53, x.ours, x.theirs, x.clash, x.out⟩ : Ck) (by decide) rfl rfl hx rfl sz82 rfl rfl (Nat.le_of_ble_eq_true rfl) rfl (fun w0 hw0 haw0 hcw0 hvw0 hbw0 how0 => ?_)
  unfold Zp
  rw [← hvw0]
  try rw [← hbw0]
  try rw [← how0]
  have hew0 : w0.l[(((o.l.length : Int) - 1)).toNat]? = some (⟨s53, x.ours, x.theirs, x.clash, x.out⟩ : Ck) := by rw [hw0]; exact List.getElem?_set_self (List.getElem?_eq_some_iff.1 hx).1
  refine VL.back (D' := []) (by kernel_rfl) (Pend.nil) ?_
  refine Zw rfl (q_nilCheck rfl) ?_
  refine Zw rfl (q_field fa261_1 rfl) ?_
  refine VD.one rfl ?_
  refine VL.storeE (s := w0) (T := 261) (j := 1) (vc := [s60.val]) (⟨s53, s60, x.theirs, x.clash, x.out⟩ : Ck) (by decide) rfl rfl hew0 rfl sz82 rfl rfl (Nat.le_of_ble_eq_true rfl) rfl (fun w1 hw1 haw1 hcw1 hvw1 hbw1 how1 => ?_)
  rw [← hvw1]
  try rw [← hbw1]
  try rw [← how1]
  have hew1 : w1.l[(((o.l.length : Int) - 1)).toNat]? = some (⟨s53, s60, x.theirs, x.clash, x.out⟩ : Ck) := by rw [hw1]; exact List.getElem?_set_self (List.getElem?_eq_some_iff.1 hew0).1
  refine VL.back (D' := []) (by kernel_rfl) (Pend.nil) ?_
  refine Zw rfl (q_nilCheck rfl) ?_
  refine Zw rfl (q_field fa261_2 rfl) ?_
  refine VD.one rfl ?_
  refine VL.storeE (s := w1) (T := 261) (j := 2) (vc := [s67.val]) (⟨s53, s60, s67, x.clash, x.out⟩ : Ck) (by decide) rfl rfl hew1 rfl sz82 rfl rfl (Nat.le_of_ble_eq_true rfl) rfl (fun w2 hw2 haw2 hcw2 hvw2 hbw2 how2 => ?_)
  rw [← hvw2]
  try rw [← hbw2]
  try rw [← how2]
  have hew2 : w2.l[(((o.l.length : Int) - 1)).toNat]? = some (⟨s53, s60, s67, x.clash, x.out⟩ : Ck) := by rw [hw2]; exact List.getElem?_set_self (List.getElem?_eq_some_iff.1 hew1).1
  refine VL.back (D' := []) (by kernel_rfl) (Pend.nil) ?_
  refine Zw rfl (q_nilCheck rfl) ?_
  refine Zw rfl (q_field fa261_4 rfl) ?_
  refine VD.one rfl ?_
  refine VL.storeE (s := w2) (T := 261) (j := 4) (vc := [s74.val]) (⟨s53, s60, s67, x.clash, s74⟩ : Ck) (by decide) rfl rfl hew2 rfl sz82 rfl rfl (Nat.le_of_ble_eq_true rfl) rfl (fun w3 hw3 haw3 hcw3 hvw3 hbw3 how3 => ?_)
  rw [← hvw3]
  try rw [← hbw3]
  try rw [← how3]
  have hew3 : w3.l[(((o.l.length : Int) - 1)).toNat]? = some (⟨s53, s60, s67, x.clash, s74⟩ : Ck) := by rw [hw3]; exact List.getElem?_set_self (List.getElem?_eq_some_iff.1 hew2).1
  refine VL.back (D' := []) (by kernel_rfl) (Pend.nil) ?_
  refine VD.to (fun _ _ h => h) ?_
  refine VC.draw [(0, true), (1, true), (2, true), (3, true), (4, true), (5, true), (6, true), (7, true), (8, true), (9, true), (10, true), (11, true), (12, true), (13, true), (14, true), (15, true), (16, true), (17, true), (18, true), (19, true), (20, false), (21, true), (22, true), (23, false), (24, true), (25, true), (26, false)] mixed (by kernel_rfl) (by kernel_rfl) (by kernel_rfl) ?_
  refine Zw rfl (q_move rfl) ?_
  refine Zw rfl (q_move rfl) ?_
  refine Zw rfl (q_move rfl) ?_
  refine Zw rfl (q_move rfl) ?_
  refine Zw rfl (q_nilCheck rfl) ?_
  refine Zw rfl (q_field fa308_3 rfl) ?_
  refine Zw rfl (q_fe one3 rfl rfl) ?_
  refine Zw rfl (q_add rfl rfl ⟨by omega, by omega⟩) ?_
  refine Zw rfl (q_move rfl) ?_
  refine Zw rfl (q_nilCheck rfl) ?_
  refine Zw rfl (q_field fa308_4 rfl) ?_
  refine Zw rfl (q_fe one3 rfl rfl) ?_
  refine Zw rfl (q_add rfl rfl ⟨by omega, by omega⟩) ?_
  refine Zw rfl (q_move rfl) ?_
  refine Zw rfl (q_nilCheck rfl) ?_
  refine Zw rfl (q_field fa308_5 rfl) ?_
  refine Zw rfl (q_fe one3 rfl rfl) ?_
  refine Zw rfl (q_add rfl rfl ⟨by omega, by omega⟩) ?_
  refine Zw rfl (q_nilCheck rfl) ?_
  refine Zw rfl (q_field fa308_3 rfl) ?_
  refine VD.one rfl ?_
  refine Zv (vc := [i64 (i + 1)]) (cs' := [bv.val, ov.val, tv.val, i64 (i + 1), i64 j, i64 k, w3.val, .bool true]) rfl sz3 ?_
  refine VL.back (D' := [(17, i64 (k + 1)), (12, i64 (j + 1))]) (by kernel_rfl) (Pend.cons rfl (q_add rfl rfl ⟨by omega, by omega⟩) (Pend.cons rfl (q_add rfl rfl ⟨by omega, by omega⟩) (Pend.nil))) ?_
  refine Zw rfl (q_nilCheck rfl) ?_
  refine Zw rfl (q_field fa308_4 rfl) ?_
  refine VD.one rfl ?_
  refine Zv (vc := [i64 (j + 1)]) (cs' := [bv.val, ov.val, tv.val, i64 (i + 1), i64 (j + 1), i64 k, w3.val, .bool true]) rfl sz3 ?_
  refine VL.back (D' := [(17, i64 (k + 1))]) (by kernel_rfl) (Pend.cons rfl (q_add rfl rfl ⟨by omega, by omega⟩) (Pend.nil)) ?_
  refine Zw rfl (q_nilCheck rfl) ?_
  refine Zw rfl (q_field fa308_5 rfl) ?_
  refine VD.one rfl ?_
  refine Zv (vc := [i64 (k + 1)]) (cs' := [bv.val, ov.val, tv.val, i64 (i + 1), i64 (j + 1), i64 (k + 1), w3.val, .bool true]) rfl sz3 ?_
  refine VL.back (D' := []) (by kernel_rfl) (Pend.nil) ?_
  have hidx := last_idx hout
  have hfin : w3.l = fr ++ [(⟨s53, s60, s67, x.clash, s74⟩ : Ck)] := by
    rw [hw3, hw2, hw1, hw0, hidx, hout, last_set, last_set, last_set, last_set]
  exact VD.nil (fin0I (.inl rfl) rfl (w3, ⟨s53, s60, s67, x.clash, s74⟩) rfl (⟨hfin, hs53, hs60, hs67, hs74, rfl⟩) EntO.out)
 refine VG.via (S := Sv Str × Sv Str × Sv Str × Sv Str) (fun sg => sg.1.l = x.base.l ++ [line] ∧ sg.2.1.l = x.ours.l ++ [line] ∧ sg.2.2.1.l = x.theirs.l ++ [line] ∧ sg.2.2.2.l = [line]) 13 (fun sg => [(28, x.out.val), (27, Zp o 4), (26, Zp o 0)]) (Zlt 2147483647) (fun sg => [(0, ptr p 0), (2, str line), (3, Zp o 0), (43, Zp o 0), (44, Zp o 0), (45, Zp o 0), (46, Zp o 0), (68, Zp o 0), (69, Zp o 0), (70, Zp o 4), (71, x.out.val), (53, sg.1.val), (60, sg.2.1.val), (67, sg.2.2.1.val), (73, sg.2.2.2.val)]) (fun sg => (sg.2.2.2.ok.and Mo.tt)) (fun sg => Ow.star (Blk p [bv.val, ov.val, tv.val, i64 i, i64 j, i64 k, o.val, .bool true] 308) (Ow.star (Sv.own o 261) (Ow.star (Sv.own sg.1 9) (Ow.star (Sv.own sg.2.1 9) (Ow.star (Sv.own sg.2.2.1 9) (Ow.star (Sv.own x.out 9) (Ow.emp))))))) ?_ fun key_9_10_16_17_23_24_30 => ?_
 ·
  rintro ⟨s53, s60, s67, s73⟩ ⟨hs53, hs60, hs67, hs73⟩
  try dsimp only at hs53 hs60 hs67 hs73
  refine VG.fork (l := [31]) (by kernel_rfl) rfl (fun i hi => ?_)
  simp only [List.mem_cons, List.not_mem_nil, or_false] at hi
  rcases hi with rfl
  refine VGo.of rfl ?_
  refine VL.app (s := x.out) (r := s73) Tryz.underlying82 app9 (by decide) rfl Fo.out (by rw [hs73]; simp; omega) (by rw [hs73]; simp; omega) (by decide) (fun s74 hs74 => ?_)
  exact VL.backE (D' := []) (ks := [0, 2, 3, 43, 44, 45, 46, 53, 60, 67, 74]) (Pend.nil) (by kernel_rfl) (by kernel_rfl) rfl (key_9_10_16_17_23_24_30_31 (s53, s60, s67, s74) ⟨hs53, hs60, hs67, (by rw [hs74, hs73])⟩)
 refine VG.via (S := Sv Str × Sv Str × Sv Str) (fun sg => sg.1.l = x.base.l ++ [line] ∧ sg.2.1.l = x.ours.l ++ [line] ∧ sg.2.2.l = x.theirs.l ++ [line]) 14 (fun sg => [(28, x.out.val), (27, Zp o 4), (26, Zp o 0)]) (Zlt 1073741823) (fun sg => [(0, ptr p 0), (2, str line), (3, Zp o 0), (43, Zp o 0), (44, Zp o 0), (45, Zp o 0), (46, Zp o 0), (68, Zp o 0), (69, Zp o 0), (70, Zp o 4), (71, x.out.val), (72, str line), (53, sg.1.val), (60, sg.2.1.val), (67, sg.2.2.val)]) (fun sg => Mo.tt) (fun sg => Ow.star (Blk p [bv.val, ov.val, tv.val, i64 i, i64 j, i64 k, o.val, .bool true] 308) (Ow.star (Sv.own o 261) (Ow.star (Sv.own sg.1 9) (Ow.star (Sv.own sg.2.1 9) (Ow.star (Sv.own sg.2.2 9) (Ow.star (Sv.own x.out 9) (Ow.emp))))))) ?_ fun key_9_10_16_17_23_24 => ?_
 ·
  rintro ⟨s53, s60, s67⟩ ⟨hs53, hs60, hs67⟩
  try dsimp only at hs53 hs60 hs67
  refine VG.fork (l := [30]) (by kernel_rfl) rfl (fun i hi => ?_)
  simp only [List.mem_cons, List.not_mem_nil, or_false] at hi
  rcases hi with rfl
  refine VGo.of rfl ?_
  refine VL.lit (α := Str) (xs := [.tmp 72]) (vs := [str line]) [line] Tryz.underlying82 lit9 (by decide) rfl rfl rfl rfl (by decide) (fun _ _ _ _ => trivial) (by decide) (fun s73 hs73 => ?_) (by decide)
  exact VL.backE (D' := [(28, x.out.val), (27, Zp o 4), (26, Zp o 0)]) (ks := [0, 2, 3, 43, 44, 45, 46, 68, 69, 70, 71, 53, 60, 67, 73]) (Pend.cons rfl (q_elfo (s := o) one82 rfl hx rfl) (Pend.cons rfl (q_field fa261_4 rfl) (Pend.cons rfl (q_nilCheck rfl) (Pend.nil)))) (by kernel_rfl) (by kernel_rfl) rfl (key_9_10_16_17_23_24_30 (s53, s60, s67, s73) ⟨hs53, hs60, hs67, hs73⟩)
 refine VG.via (S := Sv Str × Sv Str × Sv Str × Sv Str) (fun sg => sg.1.l = x.base.l ++ [line] ∧ sg.2.1.l = x.ours.l ++ [line] ∧ sg.2.2.1.l = [line] ∧ sg.2.2.2.l = [line]) 14 (fun sg => [(28, x.out.val), (27, Zp o 4), (26, Zp o 0), (21, x.theirs.val), (20, Zp o 2), (19, Zp o 0)]) (Zlt 2130706431) (fun sg => [(0, ptr p 0), (2, str line), (3, Zp o 0), (43, Zp o 0), (44, Zp o 0), (45, Zp o 0), (46, Zp o 0), (61, Zp o 0), (62, Zp o 0), (63, Zp o 2), (64, x.theirs.val), (68, Zp o 0), (69, Zp o 0), (70, Zp o 4), (71, x.out.val), (53, sg.1.val), (60, sg.2.1.val), (66, sg.2.2.1.val), (73, sg.2.2.2.val)]) (fun sg => (sg.2.2.2.ok.and (sg.2.2.1.ok.and Mo.tt))) (fun sg => Ow.star (Blk p [bv.val, ov.val, tv.val, i64 i, i64 j, i64 k, o.val, .bool true] 308) (Ow.star (Sv.own o 261) (Ow.star (Sv.own sg.1 9) (Ow.star (Sv.own sg.2.1 9) (Ow.star (Sv.own x.theirs 9) (Ow.star (Sv.own x.out 9) (Ow.emp))))))) ?_ fun key_9_10_16_17_23_30 => ?_
 ·
  rintro ⟨s53, s60, s66, s73⟩ ⟨hs53, hs60, hs66, hs73⟩
  try dsimp only at hs53 hs60 hs66 hs73
  refine VG.fork (l := [24]) (by kernel_rfl) rfl (fun i hi => ?_)
  simp only [List.mem_cons, List.not_mem_nil, or_false] at hi
  rcases hi with rfl
  refine VGo.of rfl ?_
  refine VL.app (s := x.theirs) (r := s66) Tryz.underlying82 app9 (by decide) rfl Fo.out (by rw [hs66]; simp; omega) (by rw [hs66]; simp; omega) (by decide) (fun s67 hs67 => ?_)
  exact VL.backE (D' := [(28, x.out.val), (27, Zp o 4), (26, Zp o 0)]) (ks := [0, 2, 3, 43, 44, 45, 46, 68, 69, 70, 71, 53, 60, 67, 73]) (Pend.cons rfl (q_elfo (s := o) one82 rfl hx rfl) (Pend.cons rfl (q_field fa261_4 rfl) (Pend.cons rfl (q_nilCheck rfl) (Pend.nil)))) (by kernel_rfl) (by kernel_rfl) rfl (key_9_10_16_17_23_24_30 (s53, s60, s67, s73) ⟨hs53, hs60, (by rw [hs67, hs66]), hs73⟩)
 refine VG.via (S := Sv Str × Sv Str × Sv Str) (fun sg => sg.1.l = x.base.l ++ [line] ∧ sg.2.1.l = x.ours.l ++ [line] ∧ sg.2.2.l = [line]) 15 (fun sg => [(28, x.out.val), (27, Zp o 4), (26, Zp o 0), (21, x.theirs.val), (20, Zp o 2), (19, Zp o 0)]) (Zlt 1056964607) (fun sg => [(0, ptr p 0), (2, str line), (3, Zp o 0), (43, Zp o 0), (44, Zp o 0), (45, Zp o 0), (46, Zp o 0), (61, Zp o 0), (62, Zp o 0), (63, Zp o 2), (64, x.theirs.val), (68, Zp o 0), (69, Zp o 0), (70, Zp o 4), (71, x.out.val), (72, str line), (53, sg.1.val), (60, sg.2.1.val), (66, sg.2.2.val)]) (fun sg => (sg.2.2.ok.and Mo.tt)) (fun sg => Ow.star (Blk p [bv.val, ov.val, tv.val, i64 i, i64 j, i64 k, o.val, .bool true] 308) (Ow.star (Sv.own o 261) (Ow.star (Sv.own sg.1 9) (Ow.star (Sv.own sg.2.1 9) (Ow.star (Sv.own x.theirs 9) (Ow.star (Sv.own x.out 9) (Ow.emp))))))) ?_ fun key_9_10_16_17_23 => ?_
 ·
  rintro ⟨s53, s60, s66⟩ ⟨hs53, hs60, hs66⟩
  try dsimp only at hs53 hs60 hs66
  refine VG.fork (l := [24, 30]) (by kernel_rfl) rfl (fun i hi => ?_)
  simp only [List.mem_cons, List.not_mem_nil, or_false] at hi
  rcases hi with rfl | rfl
  ·
   refine VGo.of rfl ?_
   refine VL.app (s := x.theirs) (r := s66) Tryz.underlying82 app9 (by decide) rfl Fo.out (by rw [hs66]; simp; omega) (by rw [hs66]; simp; omega) (by decide) (fun s67 hs67 => ?_)
   exact VL.backE (D' := [(28, x.out.val), (27, Zp o 4), (26, Zp o 0)]) (ks := [0, 2, 3, 43, 44, 45, 46, 68, 69, 70, 71, 72, 53, 60, 67]) (Pend.cons rfl (q_elfo (s := o) one82 rfl hx rfl) (Pend.cons rfl (q_field fa261_4 rfl) (Pend.cons rfl (q_nilCheck rfl) (Pend.nil)))) (by kernel_rfl) (by kernel_rfl) rfl (key_9_10_16_17_23_24 (s53, s60, s67) ⟨hs53, hs60, (by rw [hs67, hs66])⟩)
  refine VGo.of rfl ?_
  refine VL.lit (α := Str) (xs := [.tmp 72]) (vs := [str line]) [line] Tryz.underlying82 lit9 (by decide) rfl rfl rfl rfl (by decide) (fun _ _ _ _ => trivial) (by decide) (fun s73 hs73 => ?_) (by decide)
  exact VL.backE (D' := [(28, x.out.val), (27, Zp o 4), (26, Zp o 0), (21, x.theirs.val), (20, Zp o 2), (19, Zp o 0)]) (ks := [0, 2, 3, 43, 44, 45, 46, 61, 62, 63, 64, 68, 69, 70, 71, 53, 60, 66, 73]) (Pend.cons rfl (q_elfo (s := o) one82 rfl hx rfl) (Pend.cons rfl (q_field fa261_4 rfl) (Pend.cons rfl (q_nilCheck rfl) (Pend.cons rfl (q_elfo (s := o) one82 rfl hx rfl) (Pend.cons rfl (q_field fa261_2 rfl) (Pend.cons rfl (q_nilCheck rfl) (Pend.nil))))))) (by kernel_rfl) (by kernel_rfl) rfl (key_9_10_16_17_23_30 (s53, s60, s66, s73) ⟨hs53, hs60, hs66, hs73⟩)
 refine VG.via (S := Sv Str × Sv Str × Sv Str) (fun sg => sg.1.l = x.base.l ++ [line] ∧ sg.2.1.l = x.ours.l ++ [line] ∧ sg.2.2.l = [line]) 15 (fun sg => [(28, x.out.val), (27, Zp o 4), (26, Zp o 0), (21, x.theirs.val), (20, Zp o 2), (19, Zp o 0)]) (Zlt 2122317823) (fun sg => [(0, ptr p 0), (2, str line), (3, Zp o 0), (43, Zp o 0), (44, Zp o 0), (45, Zp o 0), (46, Zp o 0), (61, Zp o 0), (62, Zp o 0), (63, Zp o 2), (64, x.theirs.val), (65, str line), (68, Zp o 0), (69, Zp o 0), (70, Zp o 4), (71, x.out.val), (53, sg.1.val), (60, sg.2.1.val), (73, sg.2.2.val)]) (fun sg => (sg.2.2.ok.and Mo.tt)) (fun sg => Ow.star (Blk p [bv.val, ov.val, tv.val, i64 i, i64 j, i64 k, o.val, .bool true] 308) (Ow.star (Sv.own o 261) (Ow.star (Sv.own sg.1 9) (Ow.star (Sv.own sg.2.1 9) (Ow.star (Sv.own x.theirs 9) (Ow.star (Sv.own x.out 9) (Ow.emp))))))) ?_ fun key_9_10_16_17_30 => ?_
 ·
  rintro ⟨s53, s60, s73⟩ ⟨hs53, hs60, hs73⟩
  try dsimp only at hs53 hs60 hs73
  refine VG.fork (l := [23]) (by kernel_rfl) rfl (fun i hi => ?_)
  simp only [List.mem_cons, List.not_mem_nil, or_false] at hi
  rcases hi with rfl
  refine VGo.of rfl ?_
  refine VL.lit (α := Str) (xs := [.tmp 65]) (vs := [str line]) [line] Tryz.underlying82 lit9 (by decide) rfl rfl rfl rfl (by decide) (fun _ _ _ _ => trivial) (by decide) (fun s66 hs66 => ?_) (by decide)
  exact VL.backE (D' := [(28, x.out.val), (27, Zp o 4), (26, Zp o 0), (21, x.theirs.val), (20, Zp o 2), (19, Zp o 0)]) (ks := [0, 2, 3, 43, 44, 45, 46, 61, 62, 63, 64, 68, 69, 70, 71, 53, 60, 66, 73]) (Pend.cons rfl (q_elfo (s := o) one82 rfl hx rfl) (Pend.cons rfl (q_field fa261_4 rfl) (Pend.cons rfl (q_nilCheck rfl) (Pend.cons rfl (q_elfo (s := o) one82 rfl hx rfl) (Pend.cons rfl (q_field fa261_2 rfl) (Pend.cons rfl (q_nilCheck rfl) (Pend.nil))))))) (by kernel_rfl) (by kernel_rfl) rfl (key_9_10_16_17_23_30 (s53, s60, s66, s73) ⟨hs53, hs60, hs66, hs73⟩)
 refine VG.via (S := Sv Str × Sv Str × Sv Str × Sv Str) (fun sg => sg.1.l = x.base.l ++ [line] ∧ sg.2.1.l = [line] ∧ sg.2.2.1.l = [line] ∧ sg.2.2.2.l = [line]) 15 (fun sg => [(28, x.out.val), (27, Zp o 4), (26, Zp o 0), (21, x.theirs.val), (20, Zp o 2), (19, Zp o 0), (14, x.ours.val), (13, Zp o 1), (12, Zp o 0)]) (Zlt 2130575359) (fun sg => [(0, ptr p 0), (2, str line), (3, Zp o 0), (43, Zp o 0), (44, Zp o 0), (45, Zp o 0), (46, Zp o 0), (54, Zp o 0), (55, Zp o 0), (56, Zp o 1), (57, x.ours.val), (61, Zp o 0), (62, Zp o 0), (63, Zp o 2), (64, x.theirs.val), (68, Zp o 0), (69, Zp o 0), (70, Zp o 4), (71, x.out.val), (53, sg.1.val), (59, sg.2.1.val), (66, sg.2.2.1.val), (73, sg.2.2.2.val)]) (fun sg => (sg.2.2.2.ok.and (sg.2.2.1.ok.and (sg.2.1.ok.and Mo.tt)))) (fun sg => Ow.star (Blk p [bv.val, ov.val, tv.val, i64 i, i64 j, i64 k, o.val, .bool true] 308) (Ow.star (Sv.own o 261) (Ow.star (Sv.own sg.1 9) (Ow.star (Sv.own x.ours 9) (Ow.star (Sv.own x.theirs 9) (Ow.star (Sv.own x.out 9) (Ow.emp))))))) ?_ fun key_9_10_16_23_30 => ?_
 ·
  rintro ⟨s53, s59, s66, s73⟩ ⟨hs53, hs59, hs66, hs73⟩
  try dsimp only at hs53 hs59 hs66 hs73
  refine VG.fork (l := [17]) (by kernel_rfl) rfl (fun i hi => ?_)
  simp only [List.mem_cons, List.not_mem_nil, or_false] at hi
  rcases hi with rfl
  refine VGo.of rfl ?_
  refine VL.app (s := x.ours) (r := s59) Tryz.underlying82 app9 (by decide) rfl Fo.out (by rw [hs59]; simp; omega) (by rw [hs59]; simp; omega) (by decide) (fun s60 hs60 => ?_)
  exact VL.backE (D' := [(28, x.out.val), (27, Zp o 4), (26, Zp o 0), (21, x.theirs.val), (20, Zp o 2), (19, Zp o 0)]) (ks := [0, 2, 3, 43, 44, 45, 46, 61, 62, 63, 64, 68, 69, 70, 71, 53, 60, 66, 73]) (Pend.cons rfl (q_elfo (s := o) one82 rfl hx rfl) (Pend.cons rfl (q_field fa261_4 rfl) (Pend.cons rfl (q_nilCheck rfl) (Pend.cons rfl (q_elfo (s := o) one82 rfl hx rfl) (Pend.cons rfl (q_field fa261_2 rfl) (Pend.cons rfl (q_nilCheck rfl) (Pend.nil))))))) (by kernel_rfl) (by kernel_rfl) rfl (key_9_10_16_17_23_30 (s53, s60, s66, s73) ⟨hs53, (by rw [hs60, hs59]), hs66, hs73⟩)
 refine VG.via (S := Sv Str × Sv Str) (fun sg => sg.1.l = x.base.l ++ [line] ∧ sg.2.l = x.ours.l ++ [line]) 16 (fun sg => [(28, x.out.val), (27, Zp o 4), (26, Zp o 0), (21, x.theirs.val), (20, Zp o 2), (19, Zp o 0)]) (Zlt 1048575999) (fun sg => [(0, ptr p 0), (2, str line), (3, Zp o 0), (43, Zp o 0), (44, Zp o 0), (45, Zp o 0), (46, Zp o 0), (61, Zp o 0), (62, Zp o 0), (63, Zp o 2), (64, x.theirs.val), (65, str line), (68, Zp o 0), (69, Zp o 0), (70, Zp o 4), (71, x.out.val), (72, str line), (53, sg.1.val), (60, sg.2.val)]) (fun sg => Mo.tt) (fun sg => Ow.star (Blk p [bv.val, ov.val, tv.val, i64 i, i64 j, i64 k, o.val, .bool true] 308) (Ow.star (Sv.own o 261) (Ow.star (Sv.own sg.1 9) (Ow.star (Sv.own sg.2 9) (Ow.star (Sv.own x.theirs 9) (Ow.star (Sv.own x.out 9) (Ow.emp))))))) ?_ fun key_9_10_16_17 => ?_
 ·
  rintro ⟨s53, s60⟩ ⟨hs53, hs60⟩
  try dsimp only at hs53 hs60
  refine VG.fork (l := [23, 30]) (by kernel_rfl) rfl (fun i hi => ?_)
  simp only [List.mem_cons, List.not_mem_nil, or_false] at hi
  rcases hi with rfl | rfl
  ·
   refine VGo.of rfl ?_
   refine VL.lit (α := Str) (xs := [.tmp 65]) (vs := [str line]) [line] Tryz.underlying82 lit9 (by decide) rfl rfl rfl rfl (by decide) (fun _ _ _ _ => trivial) (by decide) (fun s66 hs66 => ?_) (by decide)
   exact VL.backE (D' := [(28, x.out.val), (27, Zp o 4), (26, Zp o 0), (21, x.theirs.val), (20, Zp o 2), (19, Zp o 0)]) (ks := [0, 2, 3, 43, 44, 45, 46, 61, 62, 63, 64, 68, 69, 70, 71, 72, 53, 60, 66]) (Pend.cons rfl (q_elfo (s := o) one82 rfl hx rfl) (Pend.cons rfl (q_field fa261_4 rfl) (Pend.cons rfl (q_nilCheck rfl) (Pend.cons rfl (q_elfo (s := o) one82 rfl hx rfl) (Pend.cons rfl (q_field fa261_2 rfl) (Pend.cons rfl (q_nilCheck rfl) (Pend.nil))))))) (by kernel_rfl) (by kernel_rfl) rfl (key_9_10_16_17_23 (s53, s60, s66) ⟨hs53, hs60, hs66⟩)
  refine VGo.of rfl ?_
  refine VL.lit (α := Str) (xs := [.tmp 72]) (vs := [str line]) [line] Tryz.underlying82 lit9 (by decide) rfl rfl rfl rfl (by decide) (fun _ _ _ _ => trivial) (by decide) (fun s73 hs73 => ?_) (by decide)
  exact VL.backE (D' := [(28, x.out.val), (27, Zp o 4), (26, Zp o 0), (21, x.theirs.val), (20, Zp o 2), (19, Zp o 0)]) (ks := [0, 2, 3, 43, 44, 45, 46, 61, 62, 63, 64, 65, 68, 69, 70, 71, 53, 60, 73]) (Pend.cons rfl (q_elfo (s := o) one82 rfl hx rfl) (Pend.cons rfl (q_field fa261_4 rfl) (Pend.cons rfl (q_nilCheck rfl) (Pend.cons rfl (q_elfo (s := o) one82 rfl hx rfl) (Pend.cons rfl (q_field fa261_2 rfl) (Pend.cons rfl (q_nilCheck rfl) (Pend.nil))))))) (by kernel_rfl) (by kernel_rfl) rfl (key_9_10_16_17_30 (s53, s60, s73) ⟨hs53, hs60, hs73⟩)
 refine VG.via (S := Sv Str × Sv Str × Sv Str) (fun sg => sg.1.l = x.base.l ++ [line] ∧ sg.2.1.l = [line] ∧ sg.2.2.l = [line]) 16 (fun sg => [(28, x.out.val), (27, Zp o 4), (26, Zp o 0), (21, x.theirs.val), (20, Zp o 2), (19, Zp o 0), (14, x.ours.val), (13, Zp o 1), (12, Zp o 0)]) (Zlt 1056833535) (fun sg => [(0, ptr p 0), (2, str line), (3, Zp o 0), (43, Zp o 0), (44, Zp o 0), (45, Zp o 0), (46, Zp o 0), (54, Zp o 0), (55, Zp o 0), (56, Zp o 1), (57, x.ours.val), (61, Zp o 0), (62, Zp o 0), (63, Zp o 2), (64, x.theirs.val), (68, Zp o 0), (69, Zp o 0), (70, Zp o 4), (71, x.out.val), (72, str line), (53, sg.1.val), (59, sg.2.1.val), (66, sg.2.2.val)]) (fun sg => (sg.2.2.ok.and (sg.2.1.ok.and Mo.tt))) (fun sg => Ow.star (Blk p [bv.val, ov.val, tv.val, i64 i, i64 j, i64 k, o.val, .bool true] 308) (Ow.star (Sv.own o 261) (Ow.star (Sv.own sg.1 9) (Ow.star (Sv.own x.ours 9) (Ow.star (Sv.own x.theirs 9) (Ow.star (Sv.own x.out 9) (Ow.emp))))))) ?_ fun key_9_10_16_23 => ?_
 ·
  rintro ⟨s53, s59, s66⟩ ⟨hs53, hs59, hs66⟩
  try dsimp only at hs53 hs59 hs66
  refine VG.fork (l := [17, 30]) (by kernel_rfl) rfl (fun i hi => ?_)
  simp only [List.mem_cons, List.not_mem_nil, or_false] at hi
  rcases hi with rfl | rfl
  ·
   refine VGo.of rfl ?_
   refine VL.app (s := x.ours) (r := s59) Tryz.underlying82 app9 (by decide) rfl Fo.out (by rw [hs59]; simp; omega) (by rw [hs59]; simp; omega) (by decide) (fun s60 hs60 => ?_)
   exact VL.backE (D' := [(28, x.out.val), (27, Zp o 4), (26, Zp o 0), (21, x.theirs.val), (20, Zp o 2), (19, Zp o 0)]) (ks := [0, 2, 3, 43, 44, 45, 46, 61, 62, 63, 64, 68, 69, 70, 71, 72, 53, 60, 66]) (Pend.cons rfl (q_elfo (s := o) one82 rfl hx rfl) (Pend.cons rfl (q_field fa261_4 rfl) (Pend.cons rfl (q_nilCheck rfl) (Pend.cons rfl (q_elfo (s := o) one82 rfl hx rfl) (Pend.cons rfl (q_field fa261_2 rfl) (Pend.cons rfl (q_nilCheck rfl) (Pend.nil))))))) (by kernel_rfl) (by kernel_rfl) rfl (key_9_10_16_17_23 (s53, s60, s66) ⟨hs53, (by rw [hs60, hs59]), hs66⟩)
  refine VGo.of rfl ?_
  refine VL.lit (α := Str) (xs := [.tmp 72]) (vs := [str line]) [line] Tryz.underlying82 lit9 (by decide) rfl rfl rfl rfl (by decide) (fun _ _ _ _ => trivial) (by decide) (fun s73 hs73 => ?_) (by decide)
  exact VL.backE (D' := [(28, x.out.val), (27, Zp o 4), (26, Zp o 0), (21, x.theirs.val), (20, Zp o 2), (19, Zp o 0), (14, x.ours.val), (13, Zp o 1), (12, Zp o 0)]) (ks := [0, 2, 3, 43, 44, 45, 46, 54, 55, 56, 57, 61, 62, 63, 64, 68, 69, 70, 71, 53, 59, 66, 73]) (Pend.cons rfl (q_elfo (s := o) one82 rfl hx rfl) (Pend.cons rfl (q_field fa261_4 rfl) (Pend.cons rfl (q_nilCheck rfl) (Pend.cons rfl (q_elfo (s := o) one82 rfl hx rfl) (Pend.cons rfl (q_field fa261_2 rfl) (Pend.cons rfl (q_nilCheck rfl) (Pend.cons rfl (q_elfo (s := o) one82 rfl hx rfl) (Pend.cons rfl (q_field fa261_1 rfl) (Pend.cons rfl (q_nilCheck rfl) (Pend.nil)))))))))) (by kernel_rfl) (by kernel_rfl) rfl (key_9_10_16_23_30 (s53, s59, s66, s73) ⟨hs53, hs59, hs66, hs73⟩)
 refine VG.via (S := Sv Str × Sv Str × Sv Str) (fun sg => sg.1.l = x.base.l ++ [line] ∧ sg.2.1.l = [line] ∧ sg.2.2.l = [line]) 16 (fun sg => [(28, x.out.val), (27, Zp o 4), (26, Zp o 0), (21, x.theirs.val), (20, Zp o 2), (19, Zp o 0), (14, x.ours.val), (13, Zp o 1), (12, Zp o 0)]) (Zlt 2122186751) (fun sg => [(0, ptr p 0), (2, str line), (3, Zp o 0), (43, Zp o 0), (44, Zp o 0), (45, Zp o 0), (46, Zp o 0), (54, Zp o 0), (55, Zp o 0), (56, Zp o 1), (57, x.ours.val), (61, Zp o 0), (62, Zp o 0), (63, Zp o 2), (64, x.theirs.val), (65, str line), (68, Zp o 0), (69, Zp o 0), (70, Zp o 4), (71, x.out.val), (53, sg.1.val), (59, sg.2.1.val), (73, sg.2.2.val)]) (fun sg => (sg.2.2.ok.and (sg.2.1.ok.and Mo.tt))) (fun sg => Ow.star (Blk p [bv.val, ov.val, tv.val, i64 i, i64 j, i64 k, o.val, .bool true] 308) (Ow.star (Sv.own o 261) (Ow.star (Sv.own sg.1 9) (Ow.star (Sv.own x.ours 9) (Ow.star (Sv.own x.theirs 9) (Ow.star (Sv.own x.out 9) (Ow.emp))))))) ?_ fun key_9_10_16_30 => ?_
 ·
  rintro ⟨s53, s59, s73⟩ ⟨hs53, hs59, hs73⟩
  try dsimp only at hs53 hs59 hs73
  refine VG.fork (l := [17, 23]) (by kernel_rfl) rfl (fun i hi => ?_)
  simp only [List.mem_cons, List.not_mem_nil, or_false] at hi
  rcases hi with rfl | rfl
  ·
   refine VGo.of rfl ?_
   refine VL.app (s := x.ours) (r := s59) Tryz.underlying82 app9 (by decide) rfl Fo.out (by rw [hs59]; simp; omega) (by rw [hs59]; simp; omega) (by decide) (fun s60 hs60 => ?_)
   exact VL.backE (D' := [(28, x.out.val), (27, Zp o 4), (26, Zp o 0), (21, x.theirs.val), (20, Zp o 2), (19, Zp o 0)]) (ks := [0, 2, 3, 43, 44, 45, 46, 61, 62, 63, 64, 65, 68, 69, 70, 71, 53, 60, 73]) (Pend.cons rfl (q_elfo (s := o) one82 rfl hx rfl) (Pend.cons rfl (q_field fa261_4 rfl) (Pend.cons rfl (q_nilCheck rfl) (Pend.cons rfl (q_elfo (s := o) one82 rfl hx rfl) (Pend.cons rfl (q_field fa261_2 rfl) (Pend.cons rfl (q_nilCheck rfl) (Pend.nil))))))) (by kernel_rfl) (by kernel_rfl) rfl (key_9_10_16_17_30 (s53, s60, s73) ⟨hs53, (by rw [hs60, hs59]), hs73⟩)
  refine VGo.of rfl ?_
  refine VL.lit (α := Str) (xs := [.tmp 65]) (vs := [str line]) [line] Tryz.underlying82 lit9 (by decide) rfl rfl rfl rfl (by decide) (fun _ _ _ _ => trivial) (by decide) (fun s66 hs66 => ?_) (by decide)
  exact VL.backE (D' := [(28, x.out.val), (27, Zp o 4), (26, Zp o 0), (21, x.theirs.val), (20, Zp o 2), (19, Zp o 0), (14, x.ours.val), (13, Zp o 1), (12, Zp o 0)]) (ks := [0, 2, 3, 43, 44, 45, 46, 54, 55, 56, 57, 61, 62, 63, 64, 68, 69, 70, 71, 53, 59, 66, 73]) (Pend.cons rfl (q_elfo (s := o) one82 rfl hx rfl) (Pend.cons rfl (q_field fa261_4 rfl) (Pend.cons rfl (q_nilCheck rfl) (Pend.cons rfl (q_elfo (s := o) one82 rfl hx rfl) (Pend.cons rfl (q_field fa261_2 rfl) (Pend.cons rfl (q_nilCheck rfl) (Pend.cons rfl (q_elfo (s := o) one82 rfl hx rfl) (Pend.cons rfl (q_field fa261_1 rfl) (Pend.cons rfl (q_nilCheck rfl) (Pend.nil)))))))))) (by kernel_rfl) (by kernel_rfl) rfl (key_9_10_16_23_30 (s53, s59, s66, s73) ⟨hs53, hs59, hs66, hs73⟩)
 refine VG.via (S := Sv Str × Sv Str × Sv Str) (fun sg => sg.1.l = x.base.l ++ [line] ∧ sg.2.1.l = [line] ∧ sg.2.2.l = [line]) 16 (fun sg => [(28, x.out.val), (27, Zp o 4), (26, Zp o 0), (21, x.theirs.val), (20, Zp o 2), (19, Zp o 0), (14, x.ours.val), (13, Zp o 1), (12, Zp o 0)]) (Zlt 2130509823) (fun sg => [(0, ptr p 0), (2, str line), (3, Zp o 0), (43, Zp o 0), (44, Zp o 0), (45, Zp o 0), (46, Zp o 0), (54, Zp o 0), (55, Zp o 0), (56, Zp o 1), (57, x.ours.val), (58, str line), (61, Zp o 0), (62, Zp o 0), (63, Zp o 2), (64, x.theirs.val), (68, Zp o 0), (69, Zp o 0), (70, Zp o 4), (71, x.out.val), (53, sg.1.val), (66, sg.2.1.val), (73, sg.2.2.val)]) (fun sg => (sg.2.2.ok.and (sg.2.1.ok.and Mo.tt))) (fun sg => Ow.star (Blk p [bv.val, ov.val, tv.val, i64 i, i64 j, i64 k, o.val, .bool true] 308) (Ow.star (Sv.own o 261) (Ow.star (Sv.own sg.1 9) (Ow.star (Sv.own x.ours 9) (Ow.star (Sv.own x.theirs 9) (Ow.star (Sv.own x.out 9) (Ow.emp))))))) ?_ fun key_9_10_23_30 => ?_
 ·
  rintro ⟨s53, s66, s73⟩ ⟨hs53, hs66, hs73⟩
  try dsimp only at hs53 hs66 hs73
  refine VG.fork (l := [16]) (by kernel_rfl) rfl (fun i hi => ?_)
  simp only [List.mem_cons, List.not_mem_nil, or_false] at hi
  rcases hi with rfl
  refine VGo.of rfl ?_
  refine VL.lit (α := Str) (xs := [.tmp 58]) (vs := [str line]) [line] Tryz.underlying82 lit9 (by decide) rfl rfl rfl rfl (by decide) (fun _ _ _ _ => trivial) (by decide) (fun s59 hs59 => ?_) (by decide)
  exact VL.backE (D' := [(28, x.out.val), (27, Zp o 4), (26, Zp o 0), (21, x.theirs.val), (20, Zp o 2), (19, Zp o 0), (14, x.ours.val), (13, Zp o 1), (12, Zp o 0)]) (ks := [0, 2, 3, 43, 44, 45, 46, 54, 55, 56, 57, 61, 62, 63, 64, 68, 69, 70, 71, 53, 59, 66, 73]) (Pend.cons rfl (q_elfo (s := o) one82 rfl hx rfl) (Pend.cons rfl (q_field fa261_4 rfl) (Pend.cons rfl (q_nilCheck rfl) (Pend.cons rfl (q_elfo (s := o) one82 rfl hx rfl) (Pend.cons rfl (q_field fa261_2 rfl) (Pend.cons rfl (q_nilCheck rfl) (Pend.cons rfl (q_elfo (s := o) one82 rfl hx rfl) (Pend.cons rfl (q_field fa261_1 rfl) (Pend.cons rfl (q_nilCheck rfl) (Pend.nil)))))))))) (by kernel_rfl) (by kernel_rfl) rfl (key_9_10_16_23_30 (s53, s59, s66, s73) ⟨hs53, hs59, hs66, hs73⟩)
 refine VG.via (S := Sv Str × Sv Str × Sv Str × Sv Str) (fun sg => sg.1.l = [line] ∧ sg.2.1.l = [line] ∧ sg.2.2.1.l = [line] ∧ sg.2.2.2.l = [line]) 16 (fun sg => [(28, x.out.val), (27, Zp o 4), (26, Zp o 0), (21, x.theirs.val), (20, Zp o 2), (19, Zp o 0), (14, x.ours.val), (13, Zp o 1), (12, Zp o 0), (7, x.base.val), (6, Zp o 0), (5, Zp o 0)]) (Zlt 2130574335) (fun sg => [(0, ptr p 0), (2, str line), (3, Zp o 0), (43, Zp o 0), (44, Zp o 0), (45, Zp o 0), (46, Zp o 0), (47, Zp o 0), (48, Zp o 0), (49, Zp o 0), (50, x.base.val), (54, Zp o 0), (55, Zp o 0), (56, Zp o 1), (57, x.ours.val), (61, Zp o 0), (62, Zp o 0), (63, Zp o 2), (64, x.theirs.val), (68, Zp o 0), (69, Zp o 0), (70, Zp o 4), (71, x.out.val), (52, sg.1.val), (59, sg.2.1.val), (66, sg.2.2.1.val), (73, sg.2.2.2.val)]) (fun sg => (sg.2.2.2.ok.and (sg.2.2.1.ok.and (sg.2.1.ok.and (sg.1.ok.and Mo.tt))))) (fun sg => Ow.star (Blk p [bv.val, ov.val, tv.val, i64 i, i64 j, i64 k, o.val, .bool true] 308) (Ow.star (Sv.own o 261) (Ow.star (Sv.own x.base 9) (Ow.star (Sv.own x.ours 9) (Ow.star (Sv.own x.theirs 9) (Ow.star (Sv.own x.out 9) (Ow.emp))))))) ?_ fun key_9_16_23_30 => ?_
 ·
  rintro ⟨s52, s59, s66, s73⟩ ⟨hs52, hs59, hs66, hs73⟩
  try dsimp only at hs52 hs59 hs66 hs73
  refine VG.fork (l := [10]) (by kernel_rfl) rfl (fun i hi => ?_)
  simp only [List.mem_cons, List.not_mem_nil, or_false] at hi
  rcases hi with rfl
  refine VGo.of rfl ?_
  refine VL.app (s := x.base) (r := s52) Tryz.underlying82 app9 (by decide) rfl Fo.out (by rw [hs52]; simp; omega) (by rw [hs52]; simp; omega) (by decide) (fun s53 hs53 => ?_)
  exact VL.backE (D' := [(28, x.out.val), (27, Zp o 4), (26, Zp o 0), (21, x.theirs.val), (20, Zp o 2), (19, Zp o 0), (14, x.ours.val), (13, Zp o 1), (12, Zp o 0)]) (ks := [0, 2, 3, 43, 44, 45, 46, 54, 55, 56, 57, 61, 62, 63, 64, 68, 69, 70, 71, 53, 59, 66, 73]) (Pend.cons rfl (q_elfo (s := o) one82 rfl hx rfl) (Pend.cons rfl (q_field fa261_4 rfl) (Pend.cons rfl (q_nilCheck rfl) (Pend.cons rfl (q_elfo (s := o) one82 rfl hx rfl) (Pend.cons rfl (q_field fa261_2 rfl) (Pend.cons rfl (q_nilCheck rfl) (Pend.cons rfl (q_elfo (s := o) one82 rfl hx rfl) (Pend.cons rfl (q_field fa261_1 rfl) (Pend.cons rfl (q_nilCheck rfl) (Pend.nil)))))))))) (by kernel_rfl) (by kernel_rfl) rfl (key_9_10_16_23_30 (s53, s59, s66, s73) ⟨(by rw [hs53, hs52]), hs59, hs66, hs73⟩)
 refine VG.via (S := Sv Str × Sv Str) (fun sg => sg.1.l = x.base.l ++ [line] ∧ sg.2.l = [line]) 17 (fun sg => [(28, x.out.val), (27, Zp o 4), (26, Zp o 0), (21, x.theirs.val), (20, Zp o 2), (19, Zp o 0), (14, x.ours.val), (13, Zp o 1), (12, Zp o 0)]) (Zlt 1048444927) (fun sg => [(0, ptr p 0), (2, str line), (3, Zp o 0), (43, Zp o 0), (44, Zp o 0), (45, Zp o 0), (46, Zp o 0), (54, Zp o 0), (55, Zp o 0), (56, Zp o 1), (57, x.ours.val), (61, Zp o 0), (62, Zp o 0), (63, Zp o 2), (64, x.theirs.val), (65, str line), (68, Zp o 0), (69, Zp o 0), (70, Zp o 4), (71, x.out.val), (72, str line), (53, sg.1.val), (59, sg.2.val)]) (fun sg => (sg.2.ok.and Mo.tt)) (fun sg => Ow.star (Blk p [bv.val, ov.val, tv.val, i64 i, i64 j, i64 k, o.val, .bool true] 308) (Ow.star (Sv.own o 261) (Ow.star (Sv.own sg.1 9) (Ow.star (Sv.own x.ours 9) (Ow.star (Sv.own x.theirs 9) (Ow.star (Sv.own x.out 9) (Ow.emp))))))) ?_ fun key_9_10_16 => ?_
 ·
  rintro ⟨s53, s59⟩ ⟨hs53, hs59⟩
  try dsimp only at hs53 hs59
  refine VG.fork (l := [17, 23, 30]) (by kernel_rfl) rfl (fun i hi => ?_)
  simp only [List.mem_cons, List.not_mem_nil, or_false] at hi
  rcases hi with rfl | rfl | rfl
  ·
   refine VGo.of rfl ?_
   refine VL.app (s := x.ours) (r := s59) Tryz.underlying82 app9 (by decide) rfl Fo.out (by rw [hs59]; simp; omega) (by rw [hs59]; simp; omega) (by decide) (fun s60 hs60 => ?_)
   exact VL.backE (D' := [(28, x.out.val), (27, Zp o 4), (26, Zp o 0), (21, x.theirs.val), (20, Zp o 2), (19, Zp o 0)]) (ks := [0, 2, 3, 43, 44, 45, 46, 61, 62, 63, 64, 65, 68, 69, 70, 71, 72, 53, 60]) (Pend.cons rfl (q_elfo (s := o) one82 rfl hx rfl) (Pend.cons rfl (q_field fa261_4 rfl) (Pend.cons rfl (q_nilCheck rfl) (Pend.cons rfl (q_elfo (s := o) one82 rfl hx rfl) (Pend.cons rfl (q_field fa261_2 rfl) (Pend.cons rfl (q_nilCheck rfl) (Pend.nil))))))) (by kernel_rfl) (by kernel_rfl) rfl (key_9_10_16_17 (s53, s60) ⟨hs53, (by rw [hs60, hs59])⟩)
  ·
   refine VGo.of rfl ?_
   refine VL.lit (α := Str) (xs := [.tmp 65]) (vs := [str line]) [line] Tryz.underlying82 lit9 (by decide) rfl rfl rfl rfl (by decide) (fun _ _ _ _ => trivial) (by decide) (fun s66 hs66 => ?_) (by decide)
   exact VL.backE (D' := [(28, x.out.val), (27, Zp o 4), (26, Zp o 0), (21, x.theirs.val), (20, Zp o 2), (19, Zp o 0), (14, x.ours.val), (13, Zp o 1), (12, Zp o 0)]) (ks := [0, 2, 3, 43, 44, 45, 46, 54, 55, 56, 57, 61, 62, 63, 64, 68, 69, 70, 71, 72, 53, 59, 66]) (Pend.cons rfl (q_elfo (s := o) one82 rfl hx rfl) (Pend.cons rfl (q_field fa261_4 rfl) (Pend.cons rfl (q_nilCheck rfl) (Pend.cons rfl (q_elfo (s := o) one82 rfl hx rfl) (Pend.cons rfl (q_field fa261_2 rfl) (Pend.cons rfl (q_nilCheck rfl) (Pend.cons rfl (q_elfo (s := o) one82 rfl hx rfl) (Pend.cons rfl (q_field fa261_1 rfl) (Pend.cons rfl (q_nilCheck rfl) (Pend.nil)))))))))) (by kernel_rfl) (by kernel_rfl) rfl (key_9_10_16_23 (s53, s59, s66) ⟨hs53, hs59, hs66⟩)
  refine VGo.of rfl ?_
  refine VL.lit (α := Str) (xs := [.tmp 72]) (vs := [str line]) [line] Tryz.underlying82 lit9 (by decide) rfl rfl rfl rfl (by decide) (fun _ _ _ _ => trivial) (by decide) (fun s73 hs73 => ?_) (by decide)
  exact VL.backE (D' := [(28, x.out.val), (27, Zp o 4), (26, Zp o 0), (21, x.theirs.val), (20, Zp o 2), (19, Zp o 0), (14, x.ours.val), (13, Zp o 1), (12, Zp o 0)]) (ks := [0, 2, 3, 43, 44, 45, 46, 54, 55, 56, 57, 61, 62, 63, 64, 65, 68, 69, 70, 71, 53, 59, 73]) (Pend.cons rfl (q_elfo (s := o) one82 rfl hx rfl) (Pend.cons rfl (q_field fa261_4 rfl) (Pend.cons rfl (q_nilCheck rfl) (Pend.cons rfl (q_elfo (s := o) one82 rfl hx rfl) (Pend.cons rfl (q_field fa261_2 rfl) (Pend.cons rfl (q_nilCheck rfl) (Pend.cons rfl (q_elfo (s := o) one82 rfl hx rfl) (Pend.cons rfl (q_field fa261_1 rfl) (Pend.cons rfl (q_nilCheck rfl) (Pend.nil)))))))))) (by kernel_rfl) (by kernel_rfl) rfl (key_9_10_16_30 (s53, s59, s73) ⟨hs53, hs59, hs73⟩)
 refine VG.via (S := Sv Str × Sv Str) (fun sg => sg.1.l = x.base.l ++ [line] ∧ sg.2.l = [line]) 17 (fun sg => [(28, x.out.val), (27, Zp o 4), (26, Zp o 0), (21, x.theirs.val), (20, Zp o 2), (19, Zp o 0), (14, x.ours.val), (13, Zp o 1), (12, Zp o 0)]) (Zlt 1056767999) (fun sg => [(0, ptr p 0), (2, str line), (3, Zp o 0), (43, Zp o 0), (44, Zp o 0), (45, Zp o 0), (46, Zp o 0), (54, Zp o 0), (55, Zp o 0), (56, Zp o 1), (57, x.ours.val), (58, str line), (61, Zp o 0), (62, Zp o 0), (63, Zp o 2), (64, x.theirs.val), (68, Zp o 0), (69, Zp o 0), (70, Zp o 4), (71, x.out.val), (72, str line), (53, sg.1.val), (66, sg.2.val)]) (fun sg => (sg.2.ok.and Mo.tt)) (fun sg => Ow.star (Blk p [bv.val, ov.val, tv.val, i64 i, i64 j, i64 k, o.val, .bool true] 308) (Ow.star (Sv.own o 261) (Ow.star (Sv.own sg.1 9) (Ow.star (Sv.own x.ours 9) (Ow.star (Sv.own x.theirs 9) (Ow.star (Sv.own x.out 9) (Ow.emp))))))) ?_ fun key_9_10_23 => ?_
 ·
  rintro ⟨s53, s66⟩ ⟨hs53, hs66⟩
  try dsimp only at hs53 hs66
  refine VG.fork (l := [16, 30]) (by kernel_rfl) rfl (fun i hi => ?_)
  simp only [List.mem_cons, List.not_mem_nil, or_false] at hi
  rcases hi with rfl | rfl
  ·
   refine VGo.of rfl ?_
   refine VL.lit (α := Str) (xs := [.tmp 58]) (vs := [str line]) [line] Tryz.underlying82 lit9 (by decide) rfl rfl rfl rfl (by decide) (fun _ _ _ _ => trivial) (by decide) (fun s59 hs59 => ?_) (by decide)
   exact VL.backE (D' := [(28, x.out.val), (27, Zp o 4), (26, Zp o 0), (21, x.theirs.val), (20, Zp o 2), (19, Zp o 0), (14, x.ours.val), (13, Zp o 1), (12, Zp o 0)]) (ks := [0, 2, 3, 43, 44, 45, 46, 54, 55, 56, 57, 61, 62, 63, 64, 68, 69, 70, 71, 72, 53, 59, 66]) (Pend.cons rfl (q_elfo (s := o) one82 rfl hx rfl) (Pend.cons rfl (q_field fa261_4 rfl) (Pend.cons rfl (q_nilCheck rfl) (Pend.cons rfl (q_elfo (s := o) one82 rfl hx rfl) (Pend.cons rfl (q_field fa261_2 rfl) (Pend.cons rfl (q_nilCheck rfl) (Pend.cons rfl (q_elfo (s := o) one82 rfl hx rfl) (Pend.cons rfl (q_field fa261_1 rfl) (Pend.cons rfl (q_nilCheck rfl) (Pend.nil)))))))))) (by kernel_rfl) (by kernel_rfl) rfl (key_9_10_16_23 (s53, s59, s66) ⟨hs53, hs59, hs66⟩)
  refine VGo.of rfl ?_
  refine VL.lit (α := Str) (xs := [.tmp 72]) (vs := [str line]) [line] Tryz.underlying82 lit9 (by decide) rfl rfl rfl rfl (by decide) (fun _ _ _ _ => trivial) (by decide) (fun s73 hs73 => ?_) (by decide)
  exact VL.backE (D' := [(28, x.out.val), (27, Zp o 4), (26, Zp o 0), (21, x.theirs.val), (20, Zp o 2), (19, Zp o 0), (14, x.ours.val), (13, Zp o 1), (12, Zp o 0)]) (ks := [0, 2, 3, 43, 44, 45, 46, 54, 55, 56, 57, 58, 61, 62, 63, 64, 68, 69, 70, 71, 53, 66, 73]) (Pend.cons rfl (q_elfo (s := o) one82 rfl hx rfl) (Pend.cons rfl (q_field fa261_4 rfl) (Pend.cons rfl (q_nilCheck rfl) (Pend.cons rfl (q_elfo (s := o) one82 rfl hx rfl) (Pend.cons rfl (q_field fa261_2 rfl) (Pend.cons rfl (q_nilCheck rfl) (Pend.cons rfl (q_elfo (s := o) one82 rfl hx rfl) (Pend.cons rfl (q_field fa261_1 rfl) (Pend.cons rfl (q_nilCheck rfl) (Pend.nil)))))))))) (by kernel_rfl) (by kernel_rfl) rfl (key_9_10_23_30 (s53, s66, s73) ⟨hs53, hs66, hs73⟩)
 refine VG.via (S := Sv Str × Sv Str) (fun sg => sg.1.l = x.base.l ++ [line] ∧ sg.2.l = [line]) 17 (fun sg => [(28, x.out.val), (27, Zp o 4), (26, Zp o 0), (21, x.theirs.val), (20, Zp o 2), (19, Zp o 0), (14, x.ours.val), (13, Zp o 1), (12, Zp o 0)]) (Zlt 2122121215) (fun sg => [(0, ptr p 0), (2, str line), (3, Zp o 0), (43, Zp o 0), (44, Zp o 0), (45, Zp o 0), (46, Zp o 0), (54, Zp o 0), (55, Zp o 0), (56, Zp o 1), (57, x.ours.val), (58, str line), (61, Zp o 0), (62, Zp o 0), (63, Zp o 2), (64, x.theirs.val), (65, str line), (68, Zp o 0), (69, Zp o 0), (70, Zp o 4), (71, x.out.val), (53, sg.1.val), (73, sg.2.val)]) (fun sg => (sg.2.ok.and Mo.tt)) (fun sg => Ow.star (Blk p [bv.val, ov.val, tv.val, i64 i, i64 j, i64 k, o.val, .bool true] 308) (Ow.star (Sv.own o 261) (Ow.star (Sv.own sg.1 9) (Ow.star (Sv.own x.ours 9) (Ow.star (Sv.own x.theirs 9) (Ow.star (Sv.own x.out 9) (Ow.emp))))))) ?_ fun key_9_10_30 => ?_
 ·
  rintro ⟨s53, s73⟩ ⟨hs53, hs73⟩
  try dsimp only at hs53 hs73
  refine VG.fork (l := [16, 23]) (by kernel_rfl) rfl (fun i hi => ?_)
  simp only [List.mem_cons, List.not_mem_nil, or_false] at hi
  rcases hi with rfl | rfl
  ·
   refine VGo.of rfl ?_
   refine VL.lit (α := Str) (xs := [.tmp 58]) (vs := [str line]) [line] Tryz.underlying82 lit9 (by decide) rfl rfl rfl rfl (by decide) (fun _ _ _ _ => trivial) (by decide) (fun s59 hs59 => ?_) (by decide)
   exact VL.backE (D' := [(28, x.out.val), (27, Zp o 4), (26, Zp o 0), (21, x.theirs.val), (20, Zp o 2), (19, Zp o 0), (14, x.ours.val), (13, Zp o 1), (12, Zp o 0)]) (ks := [0, 2, 3, 43, 44, 45, 46, 54, 55, 56, 57, 61, 62, 63, 64, 65, 68, 69, 70, 71, 53, 59, 73]) (Pend.cons rfl (q_elfo (s := o) one82 rfl hx rfl) (Pend.cons rfl (q_field fa261_4 rfl) (Pend.cons rfl (q_nilCheck rfl) (Pend.cons rfl (q_elfo (s := o) one82 rfl hx rfl) (Pend.cons rfl (q_field fa261_2 rfl) (Pend.cons rfl (q_nilCheck rfl) (Pend.cons rfl (q_elfo (s := o) one82 rfl hx rfl) (Pend.cons rfl (q_field fa261_1 rfl) (Pend.cons rfl (q_nilCheck rfl) (Pend.nil)))))))))) (by kernel_rfl) (by kernel_rfl) rfl (key_9_10_16_30 (s53, s59, s73) ⟨hs53, hs59, hs73⟩)
  refine VGo.of rfl ?_
  refine VL.lit (α := Str) (xs := [.tmp 65]) (vs := [str line]) [line] Tryz.underlying82 lit9 (by decide) rfl rfl rfl rfl (by decide) (fun _ _ _ _ => trivial) (by decide) (fun s66 hs66 => ?_) (by decide)
  exact VL.backE (D' := [(28, x.out.val), (27, Zp o 4), (26, Zp o 0), (21, x.theirs.val), (20, Zp o 2), (19, Zp o 0), (14, x.ours.val), (13, Zp o 1), (12, Zp o 0)]) (ks := [0, 2, 3, 43, 44, 45, 46, 54, 55, 56, 57, 58, 61, 62, 63, 64, 68, 69, 70, 71, 53, 66, 73]) (Pend.cons rfl (q_elfo (s := o) one82 rfl hx rfl) (Pend.cons rfl (q_field fa261_4 rfl) (Pend.cons rfl (q_nilCheck rfl) (Pend.cons rfl (q_elfo (s := o) one82 rfl hx rfl) (Pend.cons rfl (q_field fa261_2 rfl) (Pend.cons rfl (q_nilCheck rfl) (Pend.cons rfl (q_elfo (s := o) one82 rfl hx rfl) (Pend.cons rfl (q_field fa261_1 rfl) (Pend.cons rfl (q_nilCheck rfl) (Pend.nil)))))))))) (by kernel_rfl) (by kernel_rfl) rfl (key_9_10_23_30 (s53, s66, s73) ⟨hs53, hs66, hs73⟩)
 refine VG.via (S := Sv Str × Sv Str × Sv Str) (fun sg => sg.1.l = [line] ∧ sg.2.1.l = [line] ∧ sg.2.2.l = [line]) 17 (fun sg => [(28, x.out.val), (27, Zp o 4), (26, Zp o 0), (21, x.theirs.val), (20, Zp o 2), (19, Zp o 0), (14, x.ours.val), (13, Zp o 1), (12, Zp o 0), (7, x.base.val), (6, Zp o 0), (5, Zp o 0)]) (Zlt 1056832511) (fun sg => [(0, ptr p 0), (2, str line), (3, Zp o 0), (43, Zp o 0), (44, Zp o 0), (45, Zp o 0), (46, Zp o 0), (47, Zp o 0), (48, Zp o 0), (49, Zp o 0), (50, x.base.val), (54, Zp o 0), (55, Zp o 0), (56, Zp o 1), (57, x.ours.val), (61, Zp o 0), (62, Zp o 0), (63, Zp o 2), (64, x.theirs.val), (68, Zp o 0), (69, Zp o 0), (70, Zp o 4), (71, x.out.val), (72, str line), (52, sg.1.val), (59, sg.2.1.val), (66, sg.2.2.val)]) (fun sg => (sg.2.2.ok.and (sg.2.1.ok.and (sg.1.ok.and Mo.tt)))) (fun sg => Ow.star (Blk p [bv.val, ov.val, tv.val, i64 i, i64 j, i64 k, o.val, .bool true] 308) (Ow.star (Sv.own o 261) (Ow.star (Sv.own x.base 9) (Ow.star (Sv.own x.ours 9) (Ow.star (Sv.own x.theirs 9) (Ow.star (Sv.own x.out 9) (Ow.emp))))))) ?_ fun key_9_16_23 => ?_
 ·
  rintro ⟨s52, s59, s66⟩ ⟨hs52, hs59, hs66⟩
  try dsimp only at hs52 hs59 hs66
  refine VG.fork (l := [10, 30]) (by kernel_rfl) rfl (fun i hi => ?_)
  simp only [List.mem_cons, List.not_mem_nil, or_false] at hi
  rcases hi with rfl | rfl
  ·
   refine VGo.of rfl ?_
   refine VL.app (s := x.base) (r := s52) Tryz.underlying82 app9 (by decide) rfl Fo.out (by rw [hs52]; simp; omega) (by rw [hs52]; simp; omega) (by decide) (fun s53 hs53 => ?_)
   exact VL.backE (D' := [(28, x.out.val), (27, Zp o 4), (26, Zp o 0), (21, x.theirs.val), (20, Zp o 2), (19, Zp o 0), (14, x.ours.val), (13, Zp o 1), (12, Zp o 0)]) (ks := [0, 2, 3, 43, 44, 45, 46, 54, 55, 56, 57, 61, 62, 63, 64, 68, 69, 70, 71, 72, 53, 59, 66]) (Pend.cons rfl (q_elfo (s := o) one82 rfl hx rfl) (Pend.cons rfl (q_field fa261_4 rfl) (Pend.cons rfl (q_nilCheck rfl) (Pend.cons rfl (q_elfo (s := o) one82 rfl hx rfl) (Pend.cons rfl (q_field fa261_2 rfl) (Pend.cons rfl (q_nilCheck rfl) (Pend.cons rfl (q_elfo (s := o) one82 rfl hx rfl) (Pend.cons rfl (q_field fa261_1 rfl) (Pend.cons rfl (q_nilCheck rfl) (Pend.nil)))))))))) (by kernel_rfl) (by kernel_rfl) rfl (key_9_10_16_23 (s53, s59, s66) ⟨(by rw [hs53, hs52]), hs59, hs66⟩)
  refine VGo.of rfl ?_
  refine VL.lit (α := Str) (xs := [.tmp 72]) (vs := [str line]) [line] Tryz.underlying82 lit9 (by decide) rfl rfl rfl rfl (by decide) (fun _ _ _ _ => trivial) (by decide) (fun s73 hs73 => ?_) (by decide)
  exact VL.backE (D' := [(28, x.out.val), (27, Zp o 4), (26, Zp o 0), (21, x.theirs.val), (20, Zp o 2), (19, Zp o 0), (14, x.ours.val), (13, Zp o 1), (12, Zp o 0), (7, x.base.val), (6, Zp o 0), (5, Zp o 0)]) (ks := [0, 2, 3, 43, 44, 45, 46, 47, 48, 49, 50, 54, 55, 56, 57, 61, 62, 63, 64, 68, 69, 70, 71, 52, 59, 66, 73]) (Pend.cons rfl (q_elfo (s := o) one82 rfl hx rfl) (Pend.cons rfl (q_field fa261_4 rfl) (Pend.cons rfl (q_nilCheck rfl) (Pend.cons rfl (q_elfo (s := o) one82 rfl hx rfl) (Pend.cons rfl (q_field fa261_2 rfl) (Pend.cons rfl (q_nilCheck rfl) (Pend.cons rfl (q_elfo (s := o) one82 rfl hx rfl) (Pend.cons rfl (q_field fa261_1 rfl) (Pend.cons rfl (q_nilCheck rfl) (Pend.cons rfl (q_elfo (s := o) one82 rfl hx rfl) (Pend.cons rfl (q_field fa261_0 rfl) (Pend.cons rfl (q_nilCheck rfl) (Pend.nil))))))))))))) (by kernel_rfl) (by kernel_rfl) rfl (key_9_16_23_30 (s52, s59, s66, s73) ⟨hs52, hs59, hs66, hs73⟩)
 refine VG.via (S := Sv Str × Sv Str × Sv Str) (fun sg => sg.1.l = [line] ∧ sg.2.1.l = [line] ∧ sg.2.2.l = [line]) 17 (fun sg => [(28, x.out.val), (27, Zp o 4), (26, Zp o 0), (21, x.theirs.val), (20, Zp o 2), (19, Zp o 0), (14, x.ours.val), (13, Zp o 1), (12, Zp o 0), (7, x.base.val), (6, Zp o 0), (5, Zp o 0)]) (Zlt 2122185727) (fun sg => [(0, ptr p 0), (2, str line), (3, Zp o 0), (43, Zp o 0), (44, Zp o 0), (45, Zp o 0), (46, Zp o 0), (47, Zp o 0), (48, Zp o 0), (49, Zp o 0), (50, x.base.val), (54, Zp o 0), (55, Zp o 0), (56, Zp o 1), (57, x.ours.val), (61, Zp o 0), (62, Zp o 0), (63, Zp o 2), (64, x.theirs.val), (65, str line), (68, Zp o 0), (69, Zp o 0), (70, Zp o 4), (71, x.out.val), (52, sg.1.val), (59, sg.2.1.val), (73, sg.2.2.val)]) (fun sg => (sg.2.2.ok.and (sg.2.1.ok.and (sg.1.ok.and Mo.tt)))) (fun sg => Ow.star (Blk p [bv.val, ov.val, tv.val, i64 i, i64 j, i64 k, o.val, .bool true] 308) (Ow.star (Sv.own o 261) (Ow.star (Sv.own x.base 9) (Ow.star (Sv.own x.ours 9) (Ow.star (Sv.own x.theirs 9) (Ow.star (Sv.own x.out 9) (Ow.emp))))))) ?_ fun key_9_16_30 => ?_
 ·
  rintro ⟨s52, s59, s73⟩ ⟨hs52, hs59, hs73⟩
  try dsimp only at hs52 hs59 hs73
  refine VG.fork (l := [10, 23]) (by kernel_rfl) rfl (fun i hi => ?_)
  simp only [List.mem_cons, List.not_mem_nil, or_false] at hi
  rcases hi with rfl | rfl
  ·
   refine VGo.of rfl ?_
   refine VL.app (s := x.base) (r := s52) Tryz.underlying82 app9 (by decide) rfl Fo.out (by rw [hs52]; simp; omega) (by rw [hs52]; simp; omega) (by decide) (fun s53 hs53 => ?_)
   exact VL.backE (D' := [(28, x.out.val), (27, Zp o 4), (26, Zp o 0), (21, x.theirs.val), (20, Zp o 2), (19, Zp o 0), (14, x.ours.val), (13, Zp o 1), (12, Zp o 0)]) (ks := [0, 2, 3, 43, 44, 45, 46, 54, 55, 56, 57, 61, 62, 63, 64, 65, 68, 69, 70, 71, 53, 59, 73]) (Pend.cons rfl (q_elfo (s := o) one82 rfl hx rfl) (Pend.cons rfl (q_field fa261_4 rfl) (Pend.cons rfl (q_nilCheck rfl) (Pend.cons rfl (q_elfo (s := o) one82 rfl hx rfl) (Pend.cons rfl (q_field fa261_2 rfl) (Pend.cons rfl (q_nilCheck rfl) (Pend.cons rfl (q_elfo (s := o) one82 rfl hx rfl) (Pend.cons rfl (q_field fa261_1 rfl) (Pend.cons rfl (q_nilCheck rfl) (Pend.nil)))))))))) (by kernel_rfl) (by kernel_rfl) rfl (key_9_10_16_30 (s53, s59, s73) ⟨(by rw [hs53, hs52]), hs59, hs73⟩)
  refine VGo.of rfl ?_
  refine VL.lit (α := Str) (xs := [.tmp 65]) (vs := [str line]) [line] Tryz.underlying82 lit9 (by decide) rfl rfl rfl rfl (by decide) (fun _ _ _ _ => trivial) (by decide) (fun s66 hs66 => ?_) (by decide)
  exact VL.backE (D' := [(28, x.out.val), (27, Zp o 4), (26, Zp o 0), (21, x.theirs.val), (20, Zp o 2), (19, Zp o 0), (14, x.ours.val), (13, Zp o 1), (12, Zp o 0), (7, x.base.val), (6, Zp o 0), (5, Zp o 0)]) (ks := [0, 2, 3, 43, 44, 45, 46, 47, 48, 49, 50, 54, 55, 56, 57, 61, 62, 63, 64, 68, 69, 70, 71, 52, 59, 66, 73]) (Pend.cons rfl (q_elfo (s := o) one82 rfl hx rfl) (Pend.cons rfl (q_field fa261_4 rfl) (Pend.cons rfl (q_nilCheck rfl) (Pend.cons rfl (q_elfo (s := o) one82 rfl hx rfl) (Pend.cons rfl (q_field fa261_2 rfl) (Pend.cons rfl (q_nilCheck rfl) (Pend.cons rfl (q_elfo (s := o) one82 rfl hx rfl) (Pend.cons rfl (q_field fa261_1 rfl) (Pend.cons rfl (q_nilCheck rfl) (Pend.cons rfl (q_elfo (s := o) one82 rfl hx rfl) (Pend.cons rfl (q_field fa261_0 rfl) (Pend.cons rfl (q_nilCheck rfl) (Pend.nil))))))))))))) (by kernel_rfl) (by kernel_rfl) rfl (key_9_16_23_30 (s52, s59, s66, s73) ⟨hs52, hs59, hs66, hs73⟩)
 refine VG.via (S := Sv Str × Sv Str × Sv Str) (fun sg => sg.1.l = [line] ∧ sg.2.1.l = [line] ∧ sg.2.2.l = [line]) 17 (fun sg => [(28, x.out.val), (27, Zp o 4), (26, Zp o 0), (21, x.theirs.val), (20, Zp o 2), (19, Zp o 0), (14, x.ours.val), (13, Zp o 1), (12, Zp o 0), (7, x.base.val), (6, Zp o 0), (5, Zp o 0)]) (Zlt 2130508799) (fun sg => [(0, ptr p 0), (2, str line), (3, Zp o 0), (43, Zp o 0), (44, Zp o 0), (45, Zp o 0), (46, Zp o 0), (47, Zp o 0), (48, Zp o 0), (49, Zp o 0), (50, x.base.val), (54, Zp o 0), (55, Zp o 0), (56, Zp o 1), (57, x.ours.val), (58, str line), (61, Zp o 0), (62, Zp o 0), (63, Zp o 2), (64, x.theirs.val), (68, Zp o 0), (69, Zp o 0), (70, Zp o 4), (71, x.out.val), (52, sg.1.val), (66, sg.2.1.val), (73, sg.2.2.val)]) (fun sg => (sg.2.2.ok.and (sg.2.1.ok.and (sg.1.ok.and Mo.tt)))) (fun sg => Ow.star (Blk p [bv.val, ov.val, tv.val, i64 i, i64 j, i64 k, o.val, .bool true] 308) (Ow.star (Sv.own o 261) (Ow.star (Sv.own x.base 9) (Ow.star (Sv.own x.ours 9) (Ow.star (Sv.own x.theirs 9) (Ow.star (Sv.own x.out 9) (Ow.emp))))))) ?_ fun key_9_23_30 => ?_
 ·
  rintro ⟨s52, s66, s73⟩ ⟨hs52, hs66, hs73⟩
  try dsimp only at hs52 hs66 hs73
  refine VG.fork (l := [10, 16]) (by kernel_rfl) rfl (fun i hi => ?_)
  simp only [List.mem_cons, List.not_mem_nil, or_false] at hi
  rcases hi with rfl | rfl
  ·
   refine VGo.of rfl ?_
   refine VL.app (s := x.base) (r := s52) Tryz.underlying82 app9 (by decide) rfl Fo.out (by rw [hs52]; simp; omega) (by rw [hs52]; simp; omega) (by decide) (fun s53 hs53 => ?_)
   exact VL.backE (D' := [(28, x.out.val), (27, Zp o 4), (26, Zp o 0), (21, x.theirs.val), (20, Zp o 2), (19, Zp o 0), (14, x.ours.val), (13, Zp o 1), (12, Zp o 0)]) (ks := [0, 2, 3, 43, 44, 45, 46, 54, 55, 56, 57, 58, 61, 62, 63, 64, 68, 69, 70, 71, 53, 66, 73]) (Pend.cons rfl (q_elfo (s := o) one82 rfl hx rfl) (Pend.cons rfl (q_field fa261_4 rfl) (Pend.cons rfl (q_nilCheck rfl) (Pend.cons rfl (q_elfo (s := o) one82 rfl hx rfl) (Pend.cons rfl (q_field fa261_2 rfl) (Pend.cons rfl (q_nilCheck rfl) (Pend.cons rfl (q_elfo (s := o) one82 rfl hx rfl) (Pend.cons rfl (q_field fa261_1 rfl) (Pend.cons rfl (q_nilCheck rfl) (Pend.nil)))))))))) (by kernel_rfl) (by kernel_rfl) rfl (key_9_10_23_30 (s53, s66, s73) ⟨(by rw [hs53, hs52]), hs66, hs73⟩)
  refine VGo.of rfl ?_
  refine VL.lit (α := Str) (xs := [.tmp 58]) (vs := [str line]) [line] Tryz.underlying82 lit9 (by decide) rfl rfl rfl rfl (by decide) (fun _ _ _ _ => trivial) (by decide) (fun s59 hs59 => ?_) (by decide)
  exact VL.backE (D' := [(28, x.out.val), (27, Zp o 4), (26, Zp o 0), (21, x.theirs.val), (20, Zp o 2), (19, Zp o 0), (14, x.ours.val), (13, Zp o 1), (12, Zp o 0), (7, x.base.val), (6, Zp o 0), (5, Zp o 0)]) (ks := [0, 2, 3, 43, 44, 45, 46, 47, 48, 49, 50, 54, 55, 56, 57, 61, 62, 63, 64, 68, 69, 70, 71, 52, 59, 66, 73]) (Pend.cons rfl (q_elfo (s := o) one82 rfl hx rfl) (Pend.cons rfl (q_field fa261_4 rfl) (Pend.cons rfl (q_nilCheck rfl) (Pend.cons rfl (q_elfo (s := o) one82 rfl hx rfl) (Pend.cons rfl (q_field fa261_2 rfl) (Pend.cons rfl (q_nilCheck rfl) (Pend.cons rfl (q_elfo (s := o) one82 rfl hx rfl) (Pend.cons rfl (q_field fa261_1 rfl) (Pend.cons rfl (q_nilCheck rfl) (Pend.cons rfl (q_elfo (s := o) one82 rfl hx rfl) (Pend.cons rfl (q_field fa261_0 rfl) (Pend.cons rfl (q_nilCheck rfl) (Pend.nil))))))))))))) (by kernel_rfl) (by kernel_rfl) rfl (key_9_16_23_30 (s52, s59, s66, s73) ⟨hs52, hs59, hs66, hs73⟩)
 refine VG.via (S := Sv Str × Sv Str × Sv Str) (fun sg => sg.1.l = [line] ∧ sg.2.1.l = [line] ∧ sg.2.2.l = [line]) 17 (fun sg => [(28, x.out.val), (27, Zp o 4), (26, Zp o 0), (21, x.theirs.val), (20, Zp o 2), (19, Zp o 0), (14, x.ours.val), (13, Zp o 1), (12, Zp o 0), (7, x.base.val), (6, Zp o 0), (5, Zp o 0)]) (Zlt 2130573823) (fun sg => [(0, ptr p 0), (2, str line), (3, Zp o 0), (43, Zp o 0), (44, Zp o 0), (45, Zp o 0), (46, Zp o 0), (47, Zp o 0), (48, Zp o 0), (49, Zp o 0), (50, x.base.val), (51, str line), (54, Zp o 0), (55, Zp o 0), (56, Zp o 1), (57, x.ours.val), (61, Zp o 0), (62, Zp o 0), (63, Zp o 2), (64, x.theirs.val), (68, Zp o 0), (69, Zp o 0), (70, Zp o 4), (71, x.out.val), (59, sg.1.val), (66, sg.2.1.val), (73, sg.2.2.val)]) (fun sg => (sg.2.2.ok.and (sg.2.1.ok.and (sg.1.ok.and Mo.tt)))) (fun sg => Ow.star (Blk p [bv.val, ov.val, tv.val, i64 i, i64 j, i64 k, o.val, .bool true] 308) (Ow.star (Sv.own o 261) (Ow.star (Sv.own x.base 9) (Ow.star (Sv.own x.ours 9) (Ow.star (Sv.own x.theirs 9) (Ow.star (Sv.own x.out 9) (Ow.emp))))))) ?_ fun key_16_23_30 => ?_
 ·
  rintro ⟨s59, s66, s73⟩ ⟨hs59, hs66, hs73⟩
  try dsimp only at hs59 hs66 hs73
  refine VG.fork (l := [9]) (by kernel_rfl) rfl (fun i hi => ?_)
  simp only [List.mem_cons, List.not_mem_nil, or_false] at hi
  rcases hi with rfl
  refine VGo.of rfl ?_
  refine VL.lit (α := Str) (xs := [.tmp 51]) (vs := [str line]) [line] Tryz.underlying82 lit9 (by decide) rfl rfl rfl rfl (by decide) (fun _ _ _ _ => trivial) (by decide) (fun s52 hs52 => ?_) (by decide)
  exact VL.backE (D' := [(28, x.out.val), (27, Zp o 4), (26, Zp o 0), (21, x.theirs.val), (20, Zp o 2), (19, Zp o 0), (14, x.ours.val), (13, Zp o 1), (12, Zp o 0), (7, x.base.val), (6, Zp o 0), (5, Zp o 0)]) (ks := [0, 2, 3, 43, 44, 45, 46, 47, 48, 49, 50, 54, 55, 56, 57, 61, 62, 63, 64, 68, 69, 70, 71, 52, 59, 66, 73]) (Pend.cons rfl (q_elfo (s := o) one82 rfl hx rfl) (Pend.cons rfl (q_field fa261_4 rfl) (Pend.cons rfl (q_nilCheck rfl) (Pend.cons rfl (q_elfo (s := o) one82 rfl hx rfl) (Pend.cons rfl (q_field fa261_2 rfl) (Pend.cons rfl (q_nilCheck rfl) (Pend.cons rfl (q_elfo (s := o) one82 rfl hx rfl) (Pend.cons rfl (q_field fa261_1 rfl) (Pend.cons rfl (q_nilCheck rfl) (Pend.cons rfl (q_elfo (s := o) one82 rfl hx rfl) (Pend.cons rfl (q_field fa261_0 rfl) (Pend.cons rfl (q_nilCheck rfl) (Pend.nil))))))))))))) (by kernel_rfl) (by kernel_rfl) rfl (key_9_16_23_30 (s52, s59, s66, s73) ⟨hs52, hs59, hs66, hs73⟩)
 refine VG.via (S := Sv Str) (fun sg => sg.l = x.base.l ++ [line]) 18 (fun sg => [(28, x.out.val), (27, Zp o 4), (26, Zp o 0), (21, x.theirs.val), (20, Zp o 2), (19, Zp o 0), (14, x.ours.val), (13, Zp o 1), (12, Zp o 0)]) (Zlt 1048379391) (fun sg => [(0, ptr p 0), (2, str line), (3, Zp o 0), (43, Zp o 0), (44, Zp o 0), (45, Zp o 0), (46, Zp o 0), (54, Zp o 0), (55, Zp o 0), (56, Zp o 1), (57, x.ours.val), (58, str line), (61, Zp o 0), (62, Zp o 0), (63, Zp o 2), (64, x.theirs.val), (65, str line), (68, Zp o 0), (69, Zp o 0), (70, Zp o 4), (71, x.out.val), (72, str line), (53, sg.val)]) (fun sg => Mo.tt) (fun sg => Ow.star (Blk p [bv.val, ov.val, tv.val, i64 i, i64 j, i64 k, o.val, .bool true] 308) (Ow.star (Sv.own o 261) (Ow.star (Sv.own sg 9) (Ow.star (Sv.own x.ours 9) (Ow.star (Sv.own x.theirs 9) (Ow.star (Sv.own x.out 9) (Ow.emp))))))) ?_ fun key_9_10 => ?_
 ·
  rintro s53 hs53
  try dsimp only at hs53
  refine VG.fork (l := [16, 23, 30]) (by kernel_rfl) rfl (fun i hi => ?_)
  simp only [List.mem_cons, List.not_mem_nil, or_false] at hi
  rcases hi with rfl | rfl | rfl
  ·
   refine VGo.of rfl ?_
   refine VL.lit (α := Str) (xs := [.tmp 58]) (vs := [str line]) [line] Tryz.underlying82 lit9 (by decide) rfl rfl rfl rfl (by decide) (fun _ _ _ _ => trivial) (by decide) (fun s59 hs59 => ?_) (by decide)
   exact VL.backE (D' := [(28, x.out.val), (27, Zp o 4), (26, Zp o 0), (21, x.theirs.val), (20, Zp o 2), (19, Zp o 0), (14, x.ours.val), (13, Zp o 1), (12, Zp o 0)]) (ks := [0, 2, 3, 43, 44, 45, 46, 54, 55, 56, 57, 61, 62, 63, 64, 65, 68, 69, 70, 71, 72, 53, 59]) (Pend.cons rfl (q_elfo (s := o) one82 rfl hx rfl) (Pend.cons rfl (q_field fa261_4 rfl) (Pend.cons rfl (q_nilCheck rfl) (Pend.cons rfl (q_elfo (s := o) one82 rfl hx rfl) (Pend.cons rfl (q_field fa261_2 rfl) (Pend.cons rfl (q_nilCheck rfl) (Pend.cons rfl (q_elfo (s := o) one82 rfl hx rfl) (Pend.cons rfl (q_field fa261_1 rfl) (Pend.cons rfl (q_nilCheck rfl) (Pend.nil)))))))))) (by kernel_rfl) (by kernel_rfl) rfl (key_9_10_16 (s53, s59) ⟨hs53, hs59⟩)
  ·
   refine VGo.of rfl ?_
   refine VL.lit (α := Str) (xs := [.tmp 65]) (vs := [str line]) [line] Tryz.underlying82 lit9 (by decide) rfl rfl rfl rfl (by decide) (fun _ _ _ _ => trivial) (by decide) (fun s66 hs66 => ?_) (by decide)
   exact VL.backE (D' := [(28, x.out.val), (27, Zp o 4), (26, Zp o 0), (21, x.theirs.val), (20, Zp o 2), (19, Zp o 0), (14, x.ours.val), (13, Zp o 1), (12, Zp o 0)]) (ks := [0, 2, 3, 43, 44, 45, 46, 54, 55, 56, 57, 58, 61, 62, 63, 64, 68, 69, 70, 71, 72, 53, 66]) (Pend.cons rfl (q_elfo (s := o) one82 rfl hx rfl) (Pend.cons rfl (q_field fa261_4 rfl) (Pend.cons rfl (q_nilCheck rfl) (Pend.cons rfl (q_elfo (s := o) one82 rfl hx rfl) (Pend.cons rfl (q_field fa261_2 rfl) (Pend.cons rfl (q_nilCheck rfl) (Pend.cons rfl (q_elfo (s := o) one82 rfl hx rfl) (Pend.cons rfl (q_field fa261_1 rfl) (Pend.cons rfl (q_nilCheck rfl) (Pend.nil)))))))))) (by kernel_rfl) (by kernel_rfl) rfl (key_9_10_23 (s53, s66) ⟨hs53, hs66⟩)
  refine VGo.of rfl ?_
  refine VL.lit (α := Str) (xs := [.tmp 72]) (vs := [str line]) [line] Tryz.underlying82 lit9 (by decide) rfl rfl rfl rfl (by decide) (fun _ _ _ _ => trivial) (by decide) (fun s73 hs73 => ?_) (by decide)
  exact VL.backE (D' := [(28, x.out.val), (27, Zp o 4), (26, Zp o 0), (21, x.theirs.val), (20, Zp o 2), (19, Zp o 0), (14, x.ours.val), (13, Zp o 1), (12, Zp o 0)]) (ks := [0, 2, 3, 43, 44, 45, 46, 54, 55, 56, 57, 58, 61, 62, 63, 64, 65, 68, 69, 70, 71, 53, 73]) (Pend.cons rfl (q_elfo (s := o) one82 rfl hx rfl) (Pend.cons rfl (q_field fa261_4 rfl) (Pend.cons rfl (q_nilCheck rfl) (Pend.cons rfl (q_elfo (s := o) one82 rfl hx rfl) (Pend.cons rfl (q_field fa261_2 rfl) (Pend.cons rfl (q_nilCheck rfl) (Pend.cons rfl (q_elfo (s := o) one82 rfl hx rfl) (Pend.cons rfl (q_field fa261_1 rfl) (Pend.cons rfl (q_nilCheck rfl) (Pend.nil)))))))))) (by kernel_rfl) (by kernel_rfl) rfl (key_9_10_30 (s53, s73) ⟨hs53, hs73⟩)
 refine VG.via (S := Sv Str × Sv Str) (fun sg => sg.1.l = [line] ∧ sg.2.l = [line]) 18 (fun sg => [(28, x.out.val), (27, Zp o 4), (26, Zp o 0), (21, x.theirs.val), (20, Zp o 2), (19, Zp o 0), (14, x.ours.val), (13, Zp o 1), (12, Zp o 0), (7, x.base.val), (6, Zp o 0), (5, Zp o 0)]) (Zlt 1048443903) (fun sg => [(0, ptr p 0), (2, str line), (3, Zp o 0), (43, Zp o 0), (44, Zp o 0), (45, Zp o 0), (46, Zp o 0), (47, Zp o 0), (48, Zp o 0), (49, Zp o 0), (50, x.base.val), (54, Zp o 0), (55, Zp o 0), (56, Zp o 1), (57, x.ours.val), (61, Zp o 0), (62, Zp o 0), (63, Zp o 2), (64, x.theirs.val), (65, str line), (68, Zp o 0), (69, Zp o 0), (70, Zp o 4), (71, x.out.val), (72, str line), (52, sg.1.val), (59, sg.2.val)]) (fun sg => (sg.2.ok.and (sg.1.ok.and Mo.tt))) (fun sg => Ow.star (Blk p [bv.val, ov.val, tv.val, i64 i, i64 j, i64 k, o.val, .bool true] 308) (Ow.star (Sv.own o 261) (Ow.star (Sv.own x.base 9) (Ow.star (Sv.own x.ours 9) (Ow.star (Sv.own x.theirs 9) (Ow.star (Sv.own x.out 9) (Ow.emp))))))) ?_ fun key_9_16 => ?_
 ·
  rintro ⟨s52, s59⟩ ⟨hs52, hs59⟩
  try dsimp only at hs52 hs59
  refine VG.fork (l := [10, 23, 30]) (by kernel_rfl) rfl (fun i hi => ?_)
  simp only [List.mem_cons, List.not_mem_nil, or_false] at hi
  rcases hi with rfl | rfl | rfl
  ·
   refine VGo.of rfl ?_
   refine VL.app (s := x.base) (r := s52) Tryz.underlying82 app9 (by decide) rfl Fo.out (by rw [hs52]; simp; omega) (by rw [hs52]; simp; omega) (by decide) (fun s53 hs53 => ?_)
   exact VL.backE (D' := [(28, x.out.val), (27, Zp o 4), (26, Zp o 0), (21, x.theirs.val), (20, Zp o 2), (19, Zp o 0), (14, x.ours.val), (13, Zp o 1), (12, Zp o 0)]) (ks := [0, 2, 3, 43, 44, 45, 46, 54, 55, 56, 57, 61, 62, 63, 64, 65, 68, 69, 70, 71, 72, 53, 59]) (Pend.cons rfl (q_elfo (s := o) one82 rfl hx rfl) (Pend.cons rfl (q_field fa261_4 rfl) (Pend.cons rfl (q_nilCheck rfl) (Pend.cons rfl (q_elfo (s := o) one82 rfl hx rfl) (Pend.cons rfl (q_field fa261_2 rfl) (Pend.cons rfl (q_nilCheck rfl) (Pend.cons rfl (q_elfo (s := o) one82 rfl hx rfl) (Pend.cons rfl (q_field fa261_1 rfl) (Pend.cons rfl (q_nilCheck rfl) (Pend.nil)))))))))) (by kernel_rfl) (by kernel_rfl) rfl (key_9_10_16 (s53, s59) ⟨(by rw [hs53, hs52]), hs59⟩)
  ·
   refine VGo.of rfl ?_
   refine VL.lit (α := Str) (xs := [.tmp 65]) (vs := [str line]) [line] Tryz.underlying82 lit9 (by decide) rfl rfl rfl rfl (by decide) (fun _ _ _ _ => trivial) (by decide) (fun s66 hs66 => ?_) (by decide)
   exact VL.backE (D' := [(28, x.out.val), (27, Zp o 4), (26, Zp o 0), (21, x.theirs.val), (20, Zp o 2), (19, Zp o 0), (14, x.ours.val), (13, Zp o 1), (12, Zp o 0), (7, x.base.val), (6, Zp o 0), (5, Zp o 0)]) (ks := [0, 2, 3, 43, 44, 45, 46, 47, 48, 49, 50, 54, 55, 56, 57, 61, 62, 63, 64, 68, 69, 70, 71, 72, 52, 59, 66]) (Pend.cons rfl (q_elfo (s := o) one82 rfl hx rfl) (Pend.cons rfl (q_field fa261_4 rfl) (Pend.cons rfl (q_nilCheck rfl) (Pend.cons rfl (q_elfo (s := o) one82 rfl hx rfl) (Pend.cons rfl (q_field fa261_2 rfl) (Pend.cons rfl (q_nilCheck rfl) (Pend.cons rfl (q_elfo (s := o) one82 rfl hx rfl) (Pend.cons rfl (q_field fa261_1 rfl) (Pend.cons rfl (q_nilCheck rfl) (Pend.cons rfl (q_elfo (s := o) one82 rfl hx rfl) (Pend.cons rfl (q_field fa261_0 rfl) (Pend.cons rfl (q_nilCheck rfl) (Pend.nil))))))))))))) (by kernel_rfl) (by kernel_rfl) rfl (key_9_16_23 (s52, s59, s66) ⟨hs52, hs59, hs66⟩)
  refine VGo.of rfl ?_
  refine VL.lit (α := Str) (xs := [.tmp 72]) (vs := [str line]) [line] Tryz.underlying82 lit9 (by decide) rfl rfl rfl rfl (by decide) (fun _ _ _ _ => trivial) (by decide) (fun s73 hs73 => ?_) (by decide)
  exact VL.backE (D' := [(28, x.out.val), (27, Zp o 4), (26, Zp o 0), (21, x.theirs.val), (20, Zp o 2), (19, Zp o 0), (14, x.ours.val), (13, Zp o 1), (12, Zp o 0), (7, x.base.val), (6, Zp o 0), (5, Zp o 0)]) (ks := [0, 2, 3, 43, 44, 45, 46, 47, 48, 49, 50, 54, 55, 56, 57, 61, 62, 63, 64, 65, 68, 69, 70, 71, 52, 59, 73]) (Pend.cons rfl (q_elfo (s := o) one82 rfl hx rfl) (Pend.cons rfl (q_field fa261_4 rfl) (Pend.cons rfl (q_nilCheck rfl) (Pend.cons rfl (q_elfo (s := o) one82 rfl hx rfl) (Pend.cons rfl (q_field fa261_2 rfl) (Pend.cons rfl (q_nilCheck rfl) (Pend.cons rfl (q_elfo (s := o) one82 rfl hx rfl) (Pend.cons rfl (q_field fa261_1 rfl) (Pend.cons rfl (q_nilCheck rfl) (Pend.cons rfl (q_elfo (s := o) one82 rfl hx rfl) (Pend.cons rfl (q_field fa261_0 rfl) (Pend.cons rfl (q_nilCheck rfl) (Pend.nil))))))))))))) (by kernel_rfl) (by kernel_rfl) rfl (key_9_16_30 (s52, s59, s73) ⟨hs52, hs59, hs73⟩)
 refine VG.via (S := Sv Str × Sv Str) (fun sg => sg.1.l = [line] ∧ sg.2.l = [line]) 18 (fun sg => [(28, x.out.val), (27, Zp o 4), (26, Zp o 0), (21, x.theirs.val), (20, Zp o 2), (19, Zp o 0), (14, x.ours.val), (13, Zp o 1), (12, Zp o 0), (7, x.base.val), (6, Zp o 0), (5, Zp o 0)]) (Zlt 1056766975) (fun sg => [(0, ptr p 0), (2, str line), (3, Zp o 0), (43, Zp o 0), (44, Zp o 0), (45, Zp o 0), (46, Zp o 0), (47, Zp o 0), (48, Zp o 0), (49, Zp o 0), (50, x.base.val), (54, Zp o 0), (55, Zp o 0), (56, Zp o 1), (57, x.ours.val), (58, str line), (61, Zp o 0), (62, Zp o 0), (63, Zp o 2), (64, x.theirs.val), (68, Zp o 0), (69, Zp o 0), (70, Zp o 4), (71, x.out.val), (72, str line), (52, sg.1.val), (66, sg.2.val)]) (fun sg => (sg.2.ok.and (sg.1.ok.and Mo.tt))) (fun sg => Ow.star (Blk p [bv.val, ov.val, tv.val, i64 i, i64 j, i64 k, o.val, .bool true] 308) (Ow.star (Sv.own o 261) (Ow.star (Sv.own x.base 9) (Ow.star (Sv.own x.ours 9) (Ow.star (Sv.own x.theirs 9) (Ow.star (Sv.own x.out 9) (Ow.emp))))))) ?_ fun key_9_23 => ?_
 ·
  rintro ⟨s52, s66⟩ ⟨hs52, hs66⟩
  try dsimp only at hs52 hs66
  refine VG.fork (l := [10, 16, 30]) (by kernel_rfl) rfl (fun i hi => ?_)
  simp only [List.mem_cons, List.not_mem_nil, or_false] at hi
  rcases hi with rfl | rfl | rfl
  ·
   refine VGo.of rfl ?_
   refine VL.app (s := x.base) (r := s52) Tryz.underlying82 app9 (by decide) rfl Fo.out (by rw [hs52]; simp; omega) (by rw [hs52]; simp; omega) (by decide) (fun s53 hs53 => ?_)
   exact VL.backE (D' := [(28, x.out.val), (27, Zp o 4), (26, Zp o 0), (21, x.theirs.val), (20, Zp o 2), (19, Zp o 0), (14, x.ours.val), (13, Zp o 1), (12, Zp o 0)]) (ks := [0, 2, 3, 43, 44, 45, 46, 54, 55, 56, 57, 58, 61, 62, 63, 64, 68, 69, 70, 71, 72, 53, 66]) (Pend.cons rfl (q_elfo (s := o) one82 rfl hx rfl) (Pend.cons rfl (q_field fa261_4 rfl) (Pend.cons rfl (q_nilCheck rfl) (Pend.cons rfl (q_elfo (s := o) one82 rfl hx rfl) (Pend.cons rfl (q_field fa261_2 rfl) (Pend.cons rfl (q_nilCheck rfl) (Pend.cons rfl (q_elfo (s := o) one82 rfl hx rfl) (Pend.cons rfl (q_field fa261_1 rfl) (Pend.cons rfl (q_nilCheck rfl) (Pend.nil)))))))))) (by kernel_rfl) (by kernel_rfl) rfl (key_9_10_23 (s53, s66) ⟨(by rw [hs53, hs52]), hs66⟩)
  ·
   refine VGo.of rfl ?_
   refine VL.lit (α := Str) (xs := [.tmp 58]) (vs := [str line]) [line] Tryz.underlying82 lit9 (by decide) rfl rfl rfl rfl (by decide) (fun _ _ _ _ => trivial) (by decide) (fun s59 hs59 => ?_) (by decide)
   exact VL.backE (D' := [(28, x.out.val), (27, Zp o 4), (26, Zp o 0), (21, x.theirs.val), (20, Zp o 2), (19, Zp o 0), (14, x.ours.val), (13, Zp o 1), (12, Zp o 0), (7, x.base.val), (6, Zp o 0), (5, Zp o 0)]) (ks := [0, 2, 3, 43, 44, 45, 46, 47, 48, 49, 50, 54, 55, 56, 57, 61, 62, 63, 64, 68, 69, 70, 71, 72, 52, 59, 66]) (Pend.cons rfl (q_elfo (s := o) one82 rfl hx rfl) (Pend.cons rfl (q_field fa261_4 rfl) (Pend.cons rfl (q_nilCheck rfl) (Pend.cons rfl (q_elfo (s := o) one82 rfl hx rfl) (Pend.cons rfl (q_field fa261_2 rfl) (Pend.cons rfl (q_nilCheck rfl) (Pend.cons rfl (q_elfo (s := o) one82 rfl hx rfl) (Pend.cons rfl (q_field fa261_1 rfl) (Pend.cons rfl (q_nilCheck rfl) (Pend.cons rfl (q_elfo (s := o) one82 rfl hx rfl) (Pend.cons rfl (q_field fa261_0 rfl) (Pend.cons rfl (q_nilCheck rfl) (Pend.nil))))))))))))) (by kernel_rfl) (by kernel_rfl) rfl (key_9_16_23 (s52, s59, s66) ⟨hs52, hs59, hs66⟩)
  refine VGo.of rfl ?_
  refine VL.lit (α := Str) (xs := [.tmp 72]) (vs := [str line]) [line] Tryz.underlying82 lit9 (by decide) rfl rfl rfl rfl (by decide) (fun _ _ _ _ => trivial) (by decide) (fun s73 hs73 => ?_) (by decide)
  exact VL.backE (D' := [(28, x.out.val), (27, Zp o 4), (26, Zp o 0), (21, x.theirs.val), (20, Zp o 2), (19, Zp o 0), (14, x.ours.val), (13, Zp o 1), (12, Zp o 0), (7, x.base.val), (6, Zp o 0), (5, Zp o 0)]) (ks := [0, 2, 3, 43, 44, 45, 46, 47, 48, 49, 50, 54, 55, 56, 57, 58, 61, 62, 63, 64, 68, 69, 70, 71, 52, 66, 73]) (Pend.cons rfl (q_elfo (s := o) one82 rfl hx rfl) (Pend.cons rfl (q_field fa261_4 rfl) (Pend.cons rfl (q_nilCheck rfl) (Pend.cons rfl (q_elfo (s := o) one82 rfl hx rfl) (Pend.cons rfl (q_field fa261_2 rfl) (Pend.cons rfl (q_nilCheck rfl) (Pend.cons rfl (q_elfo (s := o) one82 rfl hx rfl) (Pend.cons rfl (q_field fa261_1 rfl) (Pend.cons rfl (q_nilCheck rfl) (Pend.cons rfl (q_elfo (s := o) one82 rfl hx rfl) (Pend.cons rfl (q_field fa261_0 rfl) (Pend.cons rfl (q_nilCheck rfl) (Pend.nil))))))))))))) (by kernel_rfl) (by kernel_rfl) rfl (key_9_23_30 (s52, s66, s73) ⟨hs52, hs66, hs73⟩)
 refine VG.via (S := Sv Str × Sv Str) (fun sg => sg.1.l = [line] ∧ sg.2.l = [line]) 18 (fun sg => [(28, x.out.val), (27, Zp o 4), (26, Zp o 0), (21, x.theirs.val), (20, Zp o 2), (19, Zp o 0), (14, x.ours.val), (13, Zp o 1), (12, Zp o 0), (7, x.base.val), (6, Zp o 0), (5, Zp o 0)]) (Zlt 2122120191) (fun sg => [(0, ptr p 0), (2, str line), (3, Zp o 0), (43, Zp o 0), (44, Zp o 0), (45, Zp o 0), (46, Zp o 0), (47, Zp o 0), (48, Zp o 0), (49, Zp o 0), (50, x.base.val), (54, Zp o 0), (55, Zp o 0), (56, Zp o 1), (57, x.ours.val), (58, str line), (61, Zp o 0), (62, Zp o 0), (63, Zp o 2), (64, x.theirs.val), (65, str line), (68, Zp o 0), (69, Zp o 0), (70, Zp o 4), (71, x.out.val), (52, sg.1.val), (73, sg.2.val)]) (fun sg => (sg.2.ok.and (sg.1.ok.and Mo.tt))) (fun sg => Ow.star (Blk p [bv.val, ov.val, tv.val, i64 i, i64 j, i64 k, o.val, .bool true] 308) (Ow.star (Sv.own o 261) (Ow.star (Sv.own x.base 9) (Ow.star (Sv.own x.ours 9) (Ow.star (Sv.own x.theirs 9) (Ow.star (Sv.own x.out 9) (Ow.emp))))))) ?_ fun key_9_30 => ?_
 ·
  rintro ⟨s52, s73⟩ ⟨hs52, hs73⟩
  try dsimp only at hs52 hs73
  refine VG.fork (l := [10, 16, 23]) (by kernel_rfl) rfl (fun i hi => ?_)
  simp only [List.mem_cons, List.not_mem_nil, or_false] at hi
  rcases hi with rfl | rfl | rfl
  ·
   refine VGo.of rfl ?_
   refine VL.app (s := x.base) (r := s52) Tryz.underlying82 app9 (by decide) rfl Fo.out (by rw [hs52]; simp; omega) (by rw [hs52]; simp; omega) (by decide) (fun s53 hs53 => ?_)
   exact VL.backE (D' := [(28, x.out.val), (27, Zp o 4), (26, Zp o 0), (21, x.theirs.val), (20, Zp o 2), (19, Zp o 0), (14, x.ours.val), (13, Zp o 1), (12, Zp o 0)]) (ks := [0, 2, 3, 43, 44, 45, 46, 54, 55, 56, 57, 58, 61, 62, 63, 64, 65, 68, 69, 70, 71, 53, 73]) (Pend.cons rfl (q_elfo (s := o) one82 rfl hx rfl) (Pend.cons rfl (q_field fa261_4 rfl) (Pend.cons rfl (q_nilCheck rfl) (Pend.cons rfl (q_elfo (s := o) one82 rfl hx rfl) (Pend.cons rfl (q_field fa261_2 rfl) (Pend.cons rfl (q_nilCheck rfl) (Pend.cons rfl (q_elfo (s := o) one82 rfl hx rfl) (Pend.cons rfl (q_field fa261_1 rfl) (Pend.cons rfl (q_nilCheck rfl) (Pend.nil)))))))))) (by kernel_rfl) (by kernel_rfl) rfl (key_9_10_30 (s53, s73) ⟨(by rw [hs53, hs52]), hs73⟩)
  ·
   refine VGo.of rfl ?_
   refine VL.lit (α := Str) (xs := [.tmp 58]) (vs := [str line]) [line] Tryz.underlying82 lit9 (by decide) rfl rfl rfl rfl (by decide) (fun _ _ _ _ => trivial) (by decide) (fun s59 hs59 => ?_) (by decide)
   exact VL.backE (D' := [(28, x.out.val), (27, Zp o 4), (26, Zp o 0), (21, x.theirs.val), (20, Zp o 2), (19, Zp o 0), (14, x.ours.val), (13, Zp o 1), (12, Zp o 0), (7, x.base.val), (6, Zp o 0), (5, Zp o 0)]) (ks := [0, 2, 3, 43, 44, 45, 46, 47, 48, 49, 50, 54, 55, 56, 57, 61, 62, 63, 64, 65, 68, 69, 70, 71, 52, 59, 73]) (Pend.cons rfl (q_elfo (s := o) one82 rfl hx rfl) (Pend.cons rfl (q_field fa261_4 rfl) (Pend.cons rfl (q_nilCheck rfl) (Pend.cons rfl (q_elfo (s := o) one82 rfl hx rfl) (Pend.cons rfl (q_field fa261_2 rfl) (Pend.cons rfl (q_nilCheck rfl) (Pend.cons rfl (q_elfo (s := o) one82 rfl hx rfl) (Pend.cons rfl (q_field fa261_1 rfl) (Pend.cons rfl (q_nilCheck rfl) (Pend.cons rfl (q_elfo (s := o) one82 rfl hx rfl) (Pend.cons rfl (q_field fa261_0 rfl) (Pend.cons rfl (q_nilCheck rfl) (Pend.nil))))))))))))) (by kernel_rfl) (by kernel_rfl) rfl (key_9_16_30 (s52, s59, s73) ⟨hs52, hs59, hs73⟩)
  refine VGo.of rfl ?_
  refine VL.lit (α := Str) (xs := [.tmp 65]) (vs := [str line]) [line] Tryz.underlying82 lit9 (by decide) rfl rfl rfl rfl (by decide) (fun _ _ _ _ => trivial) (by decide) (fun s66 hs66 => ?_) (by decide)
  exact VL.backE (D' := [(28, x.out.val), (27, Zp o 4), (26, Zp o 0), (21, x.theirs.val), (20, Zp o 2), (19, Zp o 0), (14, x.ours.val), (13, Zp o 1), (12, Zp o 0), (7, x.base.val), (6, Zp o 0), (5, Zp o 0)]) (ks := [0, 2, 3, 43, 44, 45, 46, 47, 48, 49, 50, 54, 55, 56, 57, 58, 61, 62, 63, 64, 68, 69, 70, 71, 52, 66, 73]) (Pend.cons rfl (q_elfo (s := o) one82 rfl hx rfl) (Pend.cons rfl (q_field fa261_4 rfl) (Pend.cons rfl (q_nilCheck rfl) (Pend.cons rfl (q_elfo (s := o) one82 rfl hx rfl) (Pend.cons rfl (q_field fa261_2 rfl) (Pend.cons rfl (q_nilCheck rfl) (Pend.cons rfl (q_elfo (s := o) one82 rfl hx rfl) (Pend.cons rfl (q_field fa261_1 rfl) (Pend.cons rfl (q_nilCheck rfl) (Pend.cons rfl (q_elfo (s := o) one82 rfl hx rfl) (Pend.cons rfl (q_field fa261_0 rfl) (Pend.cons rfl (q_nilCheck rfl) (Pend.nil))))))))))))) (by kernel_rfl) (by kernel_rfl) rfl (key_9_23_30 (s52, s66, s73) ⟨hs52, hs66, hs73⟩)
 refine VG.via (S := Sv Str × Sv Str) (fun sg => sg.1.l = [line] ∧ sg.2.l = [line]) 18 (fun sg => [(28, x.out.val), (27, Zp o 4), (26, Zp o 0), (21, x.theirs.val), (20, Zp o 2), (19, Zp o 0), (14, x.ours.val), (13, Zp o 1), (12, Zp o 0), (7, x.base.val), (6, Zp o 0), (5, Zp o 0)]) (Zlt 1056831999) (fun sg => [(0, ptr p 0), (2, str line), (3, Zp o 0), (43, Zp o 0), (44, Zp o 0), (45, Zp o 0), (46, Zp o 0), (47, Zp o 0), (48, Zp o 0), (49, Zp o 0), (50, x.base.val), (51, str line), (54, Zp o 0), (55, Zp o 0), (56, Zp o 1), (57, x.ours.val), (61, Zp o 0), (62, Zp o 0), (63, Zp o 2), (64, x.theirs.val), (68, Zp o 0), (69, Zp o 0), (70, Zp o 4), (71, x.out.val), (72, str line), (59, sg.1.val), (66, sg.2.val)]) (fun sg => (sg.2.ok.and (sg.1.ok.and Mo.tt))) (fun sg => Ow.star (Blk p [bv.val, ov.val, tv.val, i64 i, i64 j, i64 k, o.val, .bool true] 308) (Ow.star (Sv.own o 261) (Ow.star (Sv.own x.base 9) (Ow.star (Sv.own x.ours 9) (Ow.star (Sv.own x.theirs 9) (Ow.star (Sv.own x.out 9) (Ow.emp))))))) ?_ fun key_16_23 => ?_
 ·
  rintro ⟨s59, s66⟩ ⟨hs59, hs66⟩
  try dsimp only at hs59 hs66
  refine VG.fork (l := [9, 30]) (by kernel_rfl) rfl (fun i hi => ?_)
  simp only [List.mem_cons, List.not_mem_nil, or_false] at hi
  rcases hi with rfl | rfl
  ·
   refine VGo.of rfl ?_
   refine VL.lit (α := Str) (xs := [.tmp 51]) (vs := [str line]) [line] Tryz.underlying82 lit9 (by decide) rfl rfl rfl rfl (by decide) (fun _ _ _ _ => trivial) (by decide) (fun s52 hs52 => ?_) (by decide)
   exact VL.backE (D' := [(28, x.out.val), (27, Zp o 4), (26, Zp o 0), (21, x.theirs.val), (20, Zp o 2), (19, Zp o 0), (14, x.ours.val), (13, Zp o 1), (12, Zp o 0), (7, x.base.val), (6, Zp o 0), (5, Zp o 0)]) (ks := [0, 2, 3, 43, 44, 45, 46, 47, 48, 49, 50, 54, 55, 56, 57, 61, 62, 63, 64, 68, 69, 70, 71, 72, 52, 59, 66]) (Pend.cons rfl (q_elfo (s := o) one82 rfl hx rfl) (Pend.cons rfl (q_field fa261_4 rfl) (Pend.cons rfl (q_nilCheck rfl) (Pend.cons rfl (q_elfo (s := o) one82 rfl hx rfl) (Pend.cons rfl (q_field fa261_2 rfl) (Pend.cons rfl (q_nilCheck rfl) (Pend.cons rfl (q_elfo (s := o) one82 rfl hx rfl) (Pend.cons rfl (q_field fa261_1 rfl) (Pend.cons rfl (q_nilCheck rfl) (Pend.cons rfl (q_elfo (s := o) one82 rfl hx rfl) (Pend.cons rfl (q_field fa261_0 rfl) (Pend.cons rfl (q_nilCheck rfl) (Pend.nil))))))))))))) (by kernel_rfl) (by kernel_rfl) rfl (key_9_16_23 (s52, s59, s66) ⟨hs52, hs59, hs66⟩)
  refine VGo.of rfl ?_
  refine VL.lit (α := Str) (xs := [.tmp 72]) (vs := [str line]) [line] Tryz.underlying82 lit9 (by decide) rfl rfl rfl rfl (by decide) (fun _ _ _ _ => trivial) (by decide) (fun s73 hs73 => ?_) (by decide)
  exact VL.backE (D' := [(28, x.out.val), (27, Zp o 4), (26, Zp o 0), (21, x.theirs.val), (20, Zp o 2), (19, Zp o 0), (14, x.ours.val), (13, Zp o 1), (12, Zp o 0), (7, x.base.val), (6, Zp o 0), (5, Zp o 0)]) (ks := [0, 2, 3, 43, 44, 45, 46, 47, 48, 49, 50, 51, 54, 55, 56, 57, 61, 62, 63, 64, 68, 69, 70, 71, 59, 66, 73]) (Pend.cons rfl (q_elfo (s := o) one82 rfl hx rfl) (Pend.cons rfl (q_field fa261_4 rfl) (Pend.cons rfl (q_nilCheck rfl) (Pend.cons rfl (q_elfo (s := o) one82 rfl hx rfl) (Pend.cons rfl (q_field fa261_2 rfl) (Pend.cons rfl (q_nilCheck rfl) (Pend.cons rfl (q_elfo (s := o) one82 rfl hx rfl) (Pend.cons rfl (q_field fa261_1 rfl) (Pend.cons rfl (q_nilCheck rfl) (Pend.cons rfl (q_elfo (s := o) one82 rfl hx rfl) (Pend.cons rfl (q_field fa261_0 rfl) (Pend.cons rfl (q_nilCheck rfl) (Pend.nil))))))))))))) (by kernel_rfl) (by kernel_rfl) rfl (key_16_23_30 (s59, s66, s73) ⟨hs59, hs66, hs73⟩)
 refine VG.via (S := Sv Str × Sv Str) (fun sg => sg.1.l = [line] ∧ sg.2.l = [line]) 18 (fun sg => [(28, x.out.val), (27, Zp o 4), (26, Zp o 0), (21, x.theirs.val), (20, Zp o 2), (19, Zp o 0), (14, x.ours.val), (13, Zp o 1), (12, Zp o 0), (7, x.base.val), (6, Zp o 0), (5, Zp o 0)]) (Zlt 2122185215) (fun sg => [(0, ptr p 0), (2, str line), (3, Zp o 0), (43, Zp o 0), (44, Zp o 0), (45, Zp o 0), (46, Zp o 0), (47, Zp o 0), (48, Zp o 0), (49, Zp o 0), (50, x.base.val), (51, str line), (54, Zp o 0), (55, Zp o 0), (56, Zp o 1), (57, x.ours.val), (61, Zp o 0), (62, Zp o 0), (63, Zp o 2), (64, x.theirs.val), (65, str line), (68, Zp o 0), (69, Zp o 0), (70, Zp o 4), (71, x.out.val), (59, sg.1.val), (73, sg.2.val)]) (fun sg => (sg.2.ok.and (sg.1.ok.and Mo.tt))) (fun sg => Ow.star (Blk p [bv.val, ov.val, tv.val, i64 i, i64 j, i64 k, o.val, .bool true] 308) (Ow.star (Sv.own o 261) (Ow.star (Sv.own x.base 9) (Ow.star (Sv.own x.ours 9) (Ow.star (Sv.own x.theirs 9) (Ow.star (Sv.own x.out 9) (Ow.emp))))))) ?_ fun key_16_30 => ?_
 ·
  rintro ⟨s59, s73⟩ ⟨hs59, hs73⟩
  try dsimp only at hs59 hs73
  refine VG.fork (l := [9, 23]) (by kernel_rfl) rfl (fun i hi => ?_)
  simp only [List.mem_cons, List.not_mem_nil, or_false] at hi
  rcases hi with rfl | rfl
  ·
   refine VGo.of rfl ?_
   refine VL.lit (α := Str) (xs := [.tmp 51]) (vs := [str line]) [line] Tryz.underlying82 lit9 (by decide) rfl rfl rfl rfl (by decide) (fun _ _ _ _ => trivial) (by decide) (fun s52 hs52 => ?_) (by decide)
   exact VL.backE (D' := [(28, x.out.val), (27, Zp o 4), (26, Zp o 0), (21, x.theirs.val), (20, Zp o 2), (19, Zp o 0), (14, x.ours.val), (13, Zp o 1), (12, Zp o 0), (7, x.base.val), (6, Zp o 0), (5, Zp o 0)]) (ks := [0, 2, 3, 43, 44, 45, 46, 47, 48, 49, 50, 54, 55, 56, 57, 61, 62, 63, 64, 65, 68, 69, 70, 71, 52, 59, 73]) (Pend.cons rfl (q_elfo (s := o) one82 rfl hx rfl) (Pend.cons rfl (q_field fa261_4 rfl) (Pend.cons rfl (q_nilCheck rfl) (Pend.cons rfl (q_elfo (s := o) one82 rfl hx rfl) (Pend.cons rfl (q_field fa261_2 rfl) (Pend.cons rfl (q_nilCheck rfl) (Pend.cons rfl (q_elfo (s := o) one82 rfl hx rfl) (Pend.cons rfl (q_field fa261_1 rfl) (Pend.cons rfl (q_nilCheck rfl) (Pend.cons rfl (q_elfo (s := o) one82 rfl hx rfl) (Pend.cons rfl (q_field fa261_0 rfl) (Pend.cons rfl (q_nilCheck rfl) (Pend.nil))))))))))))) (by kernel_rfl) (by kernel_rfl) rfl (key_9_16_30 (s52, s59, s73) ⟨hs52, hs59, hs73⟩)
  refine VGo.of rfl ?_
  refine VL.lit (α := Str) (xs := [.tmp 65]) (vs := [str line]) [line] Tryz.underlying82 lit9 (by decide) rfl rfl rfl rfl (by decide) (fun _ _ _ _ => trivial) (by decide) (fun s66 hs66 => ?_) (by decide)
  exact VL.backE (D' := [(28, x.out.val), (27, Zp o 4), (26, Zp o 0), (21, x.theirs.val), (20, Zp o 2), (19, Zp o 0), (14, x.ours.val), (13, Zp o 1), (12, Zp o 0), (7, x.base.val), (6, Zp o 0), (5, Zp o 0)]) (ks := [0, 2, 3, 43, 44, 45, 46, 47, 48, 49, 50, 51, 54, 55, 56, 57, 61, 62, 63, 64, 68, 69, 70, 71, 59, 66, 73]) (Pend.cons rfl (q_elfo (s := o) one82 rfl hx rfl) (Pend.cons rfl (q_field fa261_4 rfl) (Pend.cons rfl (q_nilCheck rfl) (Pend.cons rfl (q_elfo (s := o) one82 rfl hx rfl) (Pend.cons rfl (q_field fa261_2 rfl) (Pend.cons rfl (q_nilCheck rfl) (Pend.cons rfl (q_elfo (s := o) one82 rfl hx rfl) (Pend.cons rfl (q_field fa261_1 rfl) (Pend.cons rfl (q_nilCheck rfl) (Pend.cons rfl (q_elfo (s := o) one82 rfl hx rfl) (Pend.cons rfl (q_field fa261_0 rfl) (Pend.cons rfl (q_nilCheck rfl) (Pend.nil))))))))))))) (by kernel_rfl) (by kernel_rfl) rfl (key_16_23_30 (s59, s66, s73) ⟨hs59, hs66, hs73⟩)
 refine VG.via (S := Sv Str × Sv Str) (fun sg => sg.1.l = [line] ∧ sg.2.l = [line]) 18 (fun sg => [(28, x.out.val), (27, Zp o 4), (26, Zp o 0), (21, x.theirs.val), (20, Zp o 2), (19, Zp o 0), (14, x.ours.val), (13, Zp o 1), (12, Zp o 0), (7, x.base.val), (6, Zp o 0), (5, Zp o 0)]) (Zlt 2130508287) (fun sg => [(0, ptr p 0), (2, str line), (3, Zp o 0), (43, Zp o 0), (44, Zp o 0), (45, Zp o 0), (46, Zp o 0), (47, Zp o 0), (48, Zp o 0), (49, Zp o 0), (50, x.base.val), (51, str line), (54, Zp o 0), (55, Zp o 0), (56, Zp o 1), (57, x.ours.val), (58, str line), (61, Zp o 0), (62, Zp o 0), (63, Zp o 2), (64, x.theirs.val), (68, Zp o 0), (69, Zp o 0), (70, Zp o 4), (71, x.out.val), (66, sg.1.val), (73, sg.2.val)]) (fun sg => (sg.2.ok.and (sg.1.ok.and Mo.tt))) (fun sg => Ow.star (Blk p [bv.val, ov.val, tv.val, i64 i, i64 j, i64 k, o.val, .bool true] 308) (Ow.star (Sv.own o 261) (Ow.star (Sv.own x.base 9) (Ow.star (Sv.own x.ours 9) (Ow.star (Sv.own x.theirs 9) (Ow.star (Sv.own x.out 9) (Ow.emp))))))) ?_ fun key_23_30 => ?_
 ·
  rintro ⟨s66, s73⟩ ⟨hs66, hs73⟩
  try dsimp only at hs66 hs73
  refine VG.fork (l := [9, 16]) (by kernel_rfl) rfl (fun i hi => ?_)
  simp only [List.mem_cons, List.not_mem_nil, or_false] at hi
  rcases hi with rfl | rfl
  ·
   refine VGo.of rfl ?_
   refine VL.lit (α := Str) (xs := [.tmp 51]) (vs := [str line]) [line] Tryz.underlying82 lit9 (by decide) rfl rfl rfl rfl (by decide) (fun _ _ _ _ => trivial) (by decide) (fun s52 hs52 => ?_) (by decide)
   exact VL.backE (D' := [(28, x.out.val), (27, Zp o 4), (26, Zp o 0), (21, x.theirs.val), (20, Zp o 2), (19, Zp o 0), (14, x.ours.val), (13, Zp o 1), (12, Zp o 0), (7, x.base.val), (6, Zp o 0), (5, Zp o 0)]) (ks := [0, 2, 3, 43, 44, 45, 46, 47, 48, 49, 50, 54, 55, 56, 57, 58, 61, 62, 63, 64, 68, 69, 70, 71, 52, 66, 73]) (Pend.cons rfl (q_elfo (s := o) one82 rfl hx rfl) (Pend.cons rfl (q_field fa261_4 rfl) (Pend.cons rfl (q_nilCheck rfl) (Pend.cons rfl (q_elfo (s := o) one82 rfl hx rfl) (Pend.cons rfl (q_field fa261_2 rfl) (Pend.cons rfl (q_nilCheck rfl) (Pend.cons rfl (q_elfo (s := o) one82 rfl hx rfl) (Pend.cons rfl (q_field fa261_1 rfl) (Pend.cons rfl (q_nilCheck rfl) (Pend.cons rfl (q_elfo (s := o) one82 rfl hx rfl) (Pend.cons rfl (q_field fa261_0 rfl) (Pend.cons rfl (q_nilCheck rfl) (Pend.nil))))))))))))) (by kernel_rfl) (by kernel_rfl) rfl (key_9_23_30 (s52, s66, s73) ⟨hs52, hs66, hs73⟩)
  refine VGo.of rfl ?_
  refine VL.lit (α := Str) (xs := [.tmp 58]) (vs := [str line]) [line] Tryz.underlying82 lit9 (by decide) rfl rfl rfl rfl (by decide) (fun _ _ _ _ => trivial) (by decide) (fun s59 hs59 => ?_) (by decide)
  exact VL.backE (D' := [(28, x.out.val), (27, Zp o 4), (26, Zp o 0), (21, x.theirs.val), (20, Zp o 2), (19, Zp o 0), (14, x.ours.val), (13, Zp o 1), (12, Zp o 0), (7, x.base.val), (6, Zp o 0), (5, Zp o 0)]) (ks := [0, 2, 3, 43, 44, 45, 46, 47, 48, 49, 50, 51, 54, 55, 56, 57, 61, 62, 63, 64, 68, 69, 70, 71, 59, 66, 73]) (Pend.cons rfl (q_elfo (s := o) one82 rfl hx rfl) (Pend.cons rfl (q_field fa261_4 rfl) (Pend.cons rfl (q_nilCheck rfl) (Pend.cons rfl (q_elfo (s := o) one82 rfl hx rfl) (Pend.cons rfl (q_field fa261_2 rfl) (Pend.cons rfl (q_nilCheck rfl) (Pend.cons rfl (q_elfo (s := o) one82 rfl hx rfl) (Pend.cons rfl (q_field fa261_1 rfl) (Pend.cons rfl (q_nilCheck rfl) (Pend.cons rfl (q_elfo (s := o) one82 rfl hx rfl) (Pend.cons rfl (q_field fa261_0 rfl) (Pend.cons rfl (q_nilCheck rfl) (Pend.nil))))))))))))) (by kernel_rfl) (by kernel_rfl) rfl (key_16_23_30 (s59, s66, s73) ⟨hs59, hs66, hs73⟩)
 refine VG.via (S := Sv Str) (fun sg => sg.l = [line]) 19 (fun sg => [(28, x.out.val), (27, Zp o 4), (26, Zp o 0), (21, x.theirs.val), (20, Zp o 2), (19, Zp o 0), (14, x.ours.val), (13, Zp o 1), (12, Zp o 0), (7, x.base.val), (6, Zp o 0), (5, Zp o 0)]) (Zlt 1048378367) (fun sg => [(0, ptr p 0), (2, str line), (3, Zp o 0), (43, Zp o 0), (44, Zp o 0), (45, Zp o 0), (46, Zp o 0), (47, Zp o 0), (48, Zp o 0), (49, Zp o 0), (50, x.base.val), (54, Zp o 0), (55, Zp o 0), (56, Zp o 1), (57, x.ours.val), (58, str line), (61, Zp o 0), (62, Zp o 0), (63, Zp o 2), (64, x.theirs.val), (65, str line), (68, Zp o 0), (69, Zp o 0), (70, Zp o 4), (71, x.out.val), (72, str line), (52, sg.val)]) (fun sg => (sg.ok.and Mo.tt)) (fun sg => Ow.star (Blk p [bv.val, ov.val, tv.val, i64 i, i64 j, i64 k, o.val, .bool true] 308) (Ow.star (Sv.own o 261) (Ow.star (Sv.own x.base 9) (Ow.star (Sv.own x.ours 9) (Ow.star (Sv.own x.theirs 9) (Ow.star (Sv.own x.out 9) (Ow.emp))))))) ?_ fun key_9 => ?_
 ·
  rintro s52 hs52
  try dsimp only at hs52
  refine VG.fork (l := [10, 16, 23, 30]) (by kernel_rfl) rfl (fun i hi => ?_)
  simp only [List.mem_cons, List.not_mem_nil, or_false] at hi
  rcases hi with rfl | rfl | rfl | rfl
  ·
   refine VGo.of rfl ?_
   refine VL.app (s := x.base) (r := s52) Tryz.underlying82 app9 (by decide) rfl Fo.out (by rw [hs52]; simp; omega) (by rw [hs52]; simp; omega) (by decide) (fun s53 hs53 => ?_)
   exact VL.backE (D' := [(28, x.out.val), (27, Zp o 4), (26, Zp o 0), (21, x.theirs.val), (20, Zp o 2), (19, Zp o 0), (14, x.ours.val), (13, Zp o 1), (12, Zp o 0)]) (ks := [0, 2, 3, 43, 44, 45, 46, 54, 55, 56, 57, 58, 61, 62, 63, 64, 65, 68, 69, 70, 71, 72, 53]) (Pend.cons rfl (q_elfo (s := o) one82 rfl hx rfl) (Pend.cons rfl (q_field fa261_4 rfl) (Pend.cons rfl (q_nilCheck rfl) (Pend.cons rfl (q_elfo (s := o) one82 rfl hx rfl) (Pend.cons rfl (q_field fa261_2 rfl) (Pend.cons rfl (q_nilCheck rfl) (Pend.cons rfl (q_elfo (s := o) one82 rfl hx rfl) (Pend.cons rfl (q_field fa261_1 rfl) (Pend.cons rfl (q_nilCheck rfl) (Pend.nil)))))))))) (by kernel_rfl) (by kernel_rfl) rfl (key_9_10 (s53) ((by rw [hs53, hs52])))
  ·
   refine VGo.of rfl ?_
   refine VL.lit (α := Str) (xs := [.tmp 58]) (vs := [str line]) [line] Tryz.underlying82 lit9 (by decide) rfl rfl rfl rfl (by decide) (fun _ _ _ _ => trivial) (by decide) (fun s59 hs59 => ?_) (by decide)
   exact VL.backE (D' := [(28, x.out.val), (27, Zp o 4), (26, Zp o 0), (21, x.theirs.val), (20, Zp o 2), (19, Zp o 0), (14, x.ours.val), (13, Zp o 1), (12, Zp o 0), (7, x.base.val), (6, Zp o 0), (5, Zp o 0)]) (ks := [0, 2, 3, 43, 44, 45, 46, 47, 48, 49, 50, 54, 55, 56, 57, 61, 62, 63, 64, 65, 68, 69, 70, 71, 72, 52, 59]) (Pend.cons rfl (q_elfo (s := o) one82 rfl hx rfl) (Pend.cons rfl (q_field fa261_4 rfl) (Pend.cons rfl (q_nilCheck rfl) (Pend.cons rfl (q_elfo (s := o) one82 rfl hx rfl) (Pend.cons rfl (q_field fa261_2 rfl) (Pend.cons rfl (q_nilCheck rfl) (Pend.cons rfl (q_elfo (s := o) one82 rfl hx rfl) (Pend.cons rfl (q_field fa261_1 rfl) (Pend.cons rfl (q_nilCheck rfl) (Pend.cons rfl (q_elfo (s := o) one82 rfl hx rfl) (Pend.cons rfl (q_field fa261_0 rfl) (Pend.cons rfl (q_nilCheck rfl) (Pend.nil))))))))))))) (by kernel_rfl) (by kernel_rfl) rfl (key_9_16 (s52, s59) ⟨hs52, hs59⟩)
  ·
   refine VGo.of rfl ?_
   refine VL.lit (α := Str) (xs := [.tmp 65]) (vs := [str line]) [line] Tryz.underlying82 lit9 (by decide) rfl rfl rfl rfl (by decide) (fun _ _ _ _ => trivial) (by decide) (fun s66 hs66 => ?_) (by decide)
   exact VL.backE (D' := [(28, x.out.val), (27, Zp o 4), (26, Zp o 0), (21, x.theirs.val), (20, Zp o 2), (19, Zp o 0), (14, x.ours.val), (13, Zp o 1), (12, Zp o 0), (7, x.base.val), (6, Zp o 0), (5, Zp o 0)]) (ks := [0, 2, 3, 43, 44, 45, 46, 47, 48, 49, 50, 54, 55, 56, 57, 58, 61, 62, 63, 64, 68, 69, 70, 71, 72, 52, 66]) (Pend.cons rfl (q_elfo (s := o) one82 rfl hx rfl) (Pend.cons rfl (q_field fa261_4 rfl) (Pend.cons rfl (q_nilCheck rfl) (Pend.cons rfl (q_elfo (s := o) one82 rfl hx rfl) (Pend.cons rfl (q_field fa261_2 rfl) (Pend.cons rfl (q_nilCheck rfl) (Pend.cons rfl (q_elfo (s := o) one82 rfl hx rfl) (Pend.cons rfl (q_field fa261_1 rfl) (Pend.cons rfl (q_nilCheck rfl) (Pend.cons rfl (q_elfo (s := o) one82 rfl hx rfl) (Pend.cons rfl (q_field fa261_0 rfl) (Pend.cons rfl (q_nilCheck rfl) (Pend.nil))))))))))))) (by kernel_rfl) (by kernel_rfl) rfl (key_9_23 (s52, s66) ⟨hs52, hs66⟩)
  refine VGo.of rfl ?_
  refine VL.lit (α := Str) (xs := [.tmp 72]) (vs := [str line]) [line] Tryz.underlying82 lit9 (by decide) rfl rfl rfl rfl (by decide) (fun _ _ _ _ => trivial) (by decide) (fun s73 hs73 => ?_) (by decide)
  exact VL.backE (D' := [(28, x.out.val), (27, Zp o 4), (26, Zp o 0), (21, x.theirs.val), (20, Zp o 2), (19, Zp o 0), (14, x.ours.val), (13, Zp o 1), (12, Zp o 0), (7, x.base.val), (6, Zp o 0), (5, Zp o 0)]) (ks := [0, 2, 3, 43, 44, 45, 46, 47, 48, 49, 50, 54, 55, 56, 57, 58, 61, 62, 63, 64, 65, 68, 69, 70, 71, 52, 73]) (Pend.cons rfl (q_elfo (s := o) one82 rfl hx rfl) (Pend.cons rfl (q_field fa261_4 rfl) (Pend.cons rfl (q_nilCheck rfl) (Pend.cons rfl (q_elfo (s := o) one82 rfl hx rfl) (Pend.cons rfl (q_field fa261_2 rfl) (Pend.cons rfl (q_nilCheck rfl) (Pend.cons rfl (q_elfo (s := o) one82 rfl hx rfl) (Pend.cons rfl (q_field fa261_1 rfl) (Pend.cons rfl (q_nilCheck rfl) (Pend.cons rfl (q_elfo (s := o) one82 rfl hx rfl) (Pend.cons rfl (q_field fa261_0 rfl) (Pend.cons rfl (q_nilCheck rfl) (Pend.nil))))))))))))) (by kernel_rfl) (by kernel_rfl) rfl (key_9_30 (s52, s73) ⟨hs52, hs73⟩)
 refine VG.via (S := Sv Str) (fun sg => sg.l = [line]) 19 (fun sg => [(28, x.out.val), (27, Zp o 4), (26, Zp o 0), (21, x.theirs.val), (20, Zp o 2), (19, Zp o 0), (14, x.ours.val), (13, Zp o 1), (12, Zp o 0), (7, x.base.val), (6, Zp o 0), (5, Zp o 0)]) (Zlt 1048443391) (fun sg => [(0, ptr p 0), (2, str line), (3, Zp o 0), (43, Zp o 0), (44, Zp o 0), (45, Zp o 0), (46, Zp o 0), (47, Zp o 0), (48, Zp o 0), (49, Zp o 0), (50, x.base.val), (51, str line), (54, Zp o 0), (55, Zp o 0), (56, Zp o 1), (57, x.ours.val), (61, Zp o 0), (62, Zp o 0), (63, Zp o 2), (64, x.theirs.val), (65, str line), (68, Zp o 0), (69, Zp o 0), (70, Zp o 4), (71, x.out.val), (72, str line), (59, sg.val)]) (fun sg => (sg.ok.and Mo.tt)) (fun sg => Ow.star (Blk p [bv.val, ov.val, tv.val, i64 i, i64 j, i64 k, o.val, .bool true] 308) (Ow.star (Sv.own o 261) (Ow.star (Sv.own x.base 9) (Ow.star (Sv.own x.ours 9) (Ow.star (Sv.own x.theirs 9) (Ow.star (Sv.own x.out 9) (Ow.emp))))))) ?_ fun key_16 => ?_
 ·
  rintro s59 hs59
  try dsimp only at hs59
  refine VG.fork (l := [9, 23, 30]) (by kernel_rfl) rfl (fun i hi => ?_)
  simp only [List.mem_cons, List.not_mem_nil, or_false] at hi
  rcases hi with rfl | rfl | rfl
  ·
   refine VGo.of rfl ?_
   refine VL.lit (α := Str) (xs := [.tmp 51]) (vs := [str line]) [line] Tryz.underlying82 lit9 (by decide) rfl rfl rfl rfl (by decide) (fun _ _ _ _ => trivial) (by decide) (fun s52 hs52 => ?_) (by decide)
   exact VL.backE (D' := [(28, x.out.val), (27, Zp o 4), (26, Zp o 0), (21, x.theirs.val), (20, Zp o 2), (19, Zp o 0), (14, x.ours.val), (13, Zp o 1), (12, Zp o 0), (7, x.base.val), (6, Zp o 0), (5, Zp o 0)]) (ks := [0, 2, 3, 43, 44, 45, 46, 47, 48, 49, 50, 54, 55, 56, 57, 61, 62, 63, 64, 65, 68, 69, 70, 71, 72, 52, 59]) (Pend.cons rfl (q_elfo (s := o) one82 rfl hx rfl) (Pend.cons rfl (q_field fa261_4 rfl) (Pend.cons rfl (q_nilCheck rfl) (Pend.cons rfl (q_elfo (s := o) one82 rfl hx rfl) (Pend.cons rfl (q_field fa261_2 rfl) (Pend.cons rfl (q_nilCheck rfl) (Pend.cons rfl (q_elfo (s := o) one82 rfl hx rfl) (Pend.cons rfl (q_field fa261_1 rfl) (Pend.cons rfl (q_nilCheck rfl) (Pend.cons rfl (q_elfo (s := o) one82 rfl hx rfl) (Pend.cons rfl (q_field fa261_0 rfl) (Pend.cons rfl (q_nilCheck rfl) (Pend.nil))))))))))))) (by kernel_rfl) (by kernel_rfl) rfl (key_9_16 (s52, s59) ⟨hs52, hs59⟩)
  ·
   refine VGo.of rfl ?_
   refine VL.lit (α := Str) (xs := [.tmp 65]) (vs := [str line]) [line] Tryz.underlying82 lit9 (by decide) rfl rfl rfl rfl (by decide) (fun _ _ _ _ => trivial) (by decide) (fun s66 hs66 => ?_) (by decide)
   exact VL.backE (D' := [(28, x.out.val), (27, Zp o 4), (26, Zp o 0), (21, x.theirs.val), (20, Zp o 2), (19, Zp o 0), (14, x.ours.val), (13, Zp o 1), (12, Zp o 0), (7, x.base.val), (6, Zp o 0), (5, Zp o 0)]) (ks := [0, 2, 3, 43, 44, 45, 46, 47, 48, 49, 50, 51, 54, 55, 56, 57, 61, 62, 63, 64, 68, 69, 70, 71, 72, 59, 66]) (Pend.cons rfl (q_elfo (s := o) one82 rfl hx rfl) (Pend.cons rfl (q_field fa261_4 rfl) (Pend.cons rfl (q_nilCheck rfl) (Pend.cons rfl (q_elfo (s := o) one82 rfl hx rfl) (Pend.cons rfl (q_field fa261_2 rfl) (Pend.cons rfl (q_nilCheck rfl) (Pend.cons rfl (q_elfo (s := o) one82 rfl hx rfl) (Pend.cons rfl (q_field fa261_1 rfl) (Pend.cons rfl (q_nilCheck rfl) (Pend.cons rfl (q_elfo (s := o) one82 rfl hx rfl) (Pend.cons rfl (q_field fa261_0 rfl) (Pend.cons rfl (q_nilCheck rfl) (Pend.nil))))))))))))) (by kernel_rfl) (by kernel_rfl) rfl (key_16_23 (s59, s66) ⟨hs59, hs66⟩)
  refine VGo.of rfl ?_
  refine VL.lit (α := Str) (xs := [.tmp 72]) (vs := [str line]) [line] Tryz.underlying82 lit9 (by decide) rfl rfl rfl rfl (by decide) (fun _ _ _ _ => trivial) (by decide) (fun s73 hs73 => ?_) (by decide)
  exact VL.backE (D' := [(28, x.out.val), (27, Zp o 4), (26, Zp o 0), (21, x.theirs.val), (20, Zp o 2), (19, Zp o 0), (14, x.ours.val), (13, Zp o 1), (12, Zp o 0), (7, x.base.val), (6, Zp o 0), (5, Zp o 0)]) (ks := [0, 2, 3, 43, 44, 45, 46, 47, 48, 49, 50, 51, 54, 55, 56, 57, 61, 62, 63, 64, 65, 68, 69, 70, 71, 59, 73]) (Pend.cons rfl (q_elfo (s := o) one82 rfl hx rfl) (Pend.cons rfl (q_field fa261_4 rfl) (Pend.cons rfl (q_nilCheck rfl) (Pend.cons rfl (q_elfo (s := o) one82 rfl hx rfl) (Pend.cons rfl (q_field fa261_2 rfl) (Pend.cons rfl (q_nilCheck rfl) (Pend.cons rfl (q_elfo (s := o) one82 rfl hx rfl) (Pend.cons rfl (q_field fa261_1 rfl) (Pend.cons rfl (q_nilCheck rfl) (Pend.cons rfl (q_elfo (s := o) one82 rfl hx rfl) (Pend.cons rfl (q_field fa261_0 rfl) (Pend.cons rfl (q_nilCheck rfl) (Pend.nil))))))))))))) (by kernel_rfl) (by kernel_rfl) rfl (key_16_30 (s59, s73) ⟨hs59, hs73⟩)
 refine VG.via (S := Sv Str) (fun sg => sg.l = [line]) 19 (fun sg => [(28, x.out.val), (27, Zp o 4), (26, Zp o 0), (21, x.theirs.val), (20, Zp o 2), (19, Zp o 0), (14, x.ours.val), (13, Zp o 1), (12, Zp o 0), (7, x.base.val), (6, Zp o 0), (5, Zp o 0)]) (Zlt 1056766463) (fun sg => [(0, ptr p 0), (2, str line), (3, Zp o 0), (43, Zp o 0), (44, Zp o 0), (45, Zp o 0), (46, Zp o 0), (47, Zp o 0), (48, Zp o 0), (49, Zp o 0), (50, x.base.val), (51, str line), (54, Zp o 0), (55, Zp o 0), (56, Zp o 1), (57, x.ours.val), (58, str line), (61, Zp o 0), (62, Zp o 0), (63, Zp o 2), (64, x.theirs.val), (68, Zp o 0), (69, Zp o 0), (70, Zp o 4), (71, x.out.val), (72, str line), (66, sg.val)]) (fun sg => (sg.ok.and Mo.tt)) (fun sg => Ow.star (Blk p [bv.val, ov.val, tv.val, i64 i, i64 j, i64 k, o.val, .bool true] 308) (Ow.star (Sv.own o 261) (Ow.star (Sv.own x.base 9) (Ow.star (Sv.own x.ours 9) (Ow.star (Sv.own x.theirs 9) (Ow.star (Sv.own x.out 9) (Ow.emp))))))) ?_ fun key_23 => ?_
 ·
  rintro s66 hs66
  try dsimp only at hs66
  refine VG.fork (l := [9, 16, 30]) (by kernel_rfl) rfl (fun i hi => ?_)
  simp only [List.mem_cons, List.not_mem_nil, or_false] at hi
  rcases hi with rfl | rfl | rfl
  ·
   refine VGo.of rfl ?_
   refine VL.lit (α := Str) (xs := [.tmp 51]) (vs := [str line]) [line] Tryz.underlying82 lit9 (by decide) rfl rfl rfl rfl (by decide) (fun _ _ _ _ => trivial) (by decide) (fun s52 hs52 => ?_) (by decide)
   exact VL.backE (D' := [(28, x.out.val), (27, Zp o 4), (26, Zp o 0), (21, x.theirs.val), (20, Zp o 2), (19, Zp o 0), (14, x.ours.val), (13, Zp o 1), (12, Zp o 0), (7, x.base.val), (6, Zp o 0), (5, Zp o 0)]) (ks := [0, 2, 3, 43, 44, 45, 46, 47, 48, 49, 50, 54, 55, 56, 57, 58, 61, 62, 63, 64, 68, 69, 70, 71, 72, 52, 66]) (Pend.cons rfl (q_elfo (s := o) one82 rfl hx rfl) (Pend.cons rfl (q_field fa261_4 rfl) (Pend.cons rfl (q_nilCheck rfl) (Pend.cons rfl (q_elfo (s := o) one82 rfl hx rfl) (Pend.cons rfl (q_field fa261_2 rfl) (Pend.cons rfl (q_nilCheck rfl) (Pend.cons rfl (q_elfo (s := o) one82 rfl hx rfl) (Pend.cons rfl (q_field fa261_1 rfl) (Pend.cons rfl (q_nilCheck rfl) (Pend.cons rfl (q_elfo (s := o) one82 rfl hx rfl) (Pend.cons rfl (q_field fa261_0 rfl) (Pend.cons rfl (q_nilCheck rfl) (Pend.nil))))))))))))) (by kernel_rfl) (by kernel_rfl) rfl (key_9_23 (s52, s66) ⟨hs52, hs66⟩)
  ·
   refine VGo.of rfl ?_
   refine VL.lit (α := Str) (xs := [.tmp 58]) (vs := [str line]) [line] Tryz.underlying82 lit9 (by decide) rfl rfl rfl rfl (by decide) (fun _ _ _ _ => trivial) (by decide) (fun s59 hs59 => ?_) (by decide)
   exact VL.backE (D' := [(28, x.out.val), (27, Zp o 4), (26, Zp o 0), (21, x.theirs.val), (20, Zp o 2), (19, Zp o 0), (14, x.ours.val), (13, Zp o 1), (12, Zp o 0), (7, x.base.val), (6, Zp o 0), (5, Zp o 0)]) (ks := [0, 2, 3, 43, 44, 45, 46, 47, 48, 49, 50, 51, 54, 55, 56, 57, 61, 62, 63, 64, 68, 69, 70, 71, 72, 59, 66]) (Pend.cons rfl (q_elfo (s := o) one82 rfl hx rfl) (Pend.cons rfl (q_field fa261_4 rfl) (Pend.cons rfl (q_nilCheck rfl) (Pend.cons rfl (q_elfo (s := o) one82 rfl hx rfl) (Pend.cons rfl (q_field fa261_2 rfl) (Pend.cons rfl (q_nilCheck rfl) (Pend.cons rfl (q_elfo (s := o) one82 rfl hx rfl) (Pend.cons rfl (q_field fa261_1 rfl) (Pend.cons rfl (q_nilCheck rfl) (Pend.cons rfl (q_elfo (s := o) one82 rfl hx rfl) (Pend.cons rfl (q_field fa261_0 rfl) (Pend.cons rfl (q_nilCheck rfl) (Pend.nil))))))))))))) (by kernel_rfl) (by kernel_rfl) rfl (key_16_23 (s59, s66) ⟨hs59, hs66⟩)
  refine VGo.of rfl ?_
  refine VL.lit (α := Str) (xs := [.tmp 72]) (vs := [str line]) [line] Tryz.underlying82 lit9 (by decide) rfl rfl rfl rfl (by decide) (fun _ _ _ _ => trivial) (by decide) (fun s73 hs73 => ?_) (by decide)
  exact VL.backE (D' := [(28, x.out.val), (27, Zp o 4), (26, Zp o 0), (21, x.theirs.val), (20, Zp o 2), (19, Zp o 0), (14, x.ours.val), (13, Zp o 1), (12, Zp o 0), (7, x.base.val), (6, Zp o 0), (5, Zp o 0)]) (ks := [0, 2, 3, 43, 44, 45, 46, 47, 48, 49, 50, 51, 54, 55, 56, 57, 58, 61, 62, 63, 64, 68, 69, 70, 71, 66, 73]) (Pend.cons rfl (q_elfo (s := o) one82 rfl hx rfl) (Pend.cons rfl (q_field fa261_4 rfl) (Pend.cons rfl (q_nilCheck rfl) (Pend.cons rfl (q_elfo (s := o) one82 rfl hx rfl) (Pend.cons rfl (q_field fa261_2 rfl) (Pend.cons rfl (q_nilCheck rfl) (Pend.cons rfl (q_elfo (s := o) one82 rfl hx rfl) (Pend.cons rfl (q_field fa261_1 rfl) (Pend.cons rfl (q_nilCheck rfl) (Pend.cons rfl (q_elfo (s := o) one82 rfl hx rfl) (Pend.cons rfl (q_field fa261_0 rfl) (Pend.cons rfl (q_nilCheck rfl) (Pend.nil))))))))))))) (by kernel_rfl) (by kernel_rfl) rfl (key_23_30 (s66, s73) ⟨hs66, hs73⟩)
 refine VG.via (S := Sv Str) (fun sg => sg.l = [line]) 19 (fun sg => [(28, x.out.val), (27, Zp o 4), (26, Zp o 0), (21, x.theirs.val), (20, Zp o 2), (19, Zp o 0), (14, x.ours.val), (13, Zp o 1), (12, Zp o 0), (7, x.base.val), (6, Zp o 0), (5, Zp o 0)]) (Zlt 2122119679) (fun sg => [(0, ptr p 0), (2, str line), (3, Zp o 0), (43, Zp o 0), (44, Zp o 0), (45, Zp o 0), (46, Zp o 0), (47, Zp o 0), (48, Zp o 0), (49, Zp o 0), (50, x.base.val), (51, str line), (54, Zp o 0), (55, Zp o 0), (56, Zp o 1), (57, x.ours.val), (58, str line), (61, Zp o 0), (62, Zp o 0), (63, Zp o 2), (64, x.theirs.val), (65, str line), (68, Zp o 0), (69, Zp o 0), (70, Zp o 4), (71, x.out.val), (73, sg.val)]) (fun sg => (sg.ok.and Mo.tt)) (fun sg => Ow.star (Blk p [bv.val, ov.val, tv.val, i64 i, i64 j, i64 k, o.val, .bool true] 308) (Ow.star (Sv.own o 261) (Ow.star (Sv.own x.base 9) (Ow.star (Sv.own x.ours 9) (Ow.star (Sv.own x.theirs 9) (Ow.star (Sv.own x.out 9) (Ow.emp))))))) ?_ fun key_30 => ?_
 ·
  rintro s73 hs73
  try dsimp only at hs73
  refine VG.fork (l := [9, 16, 23]) (by kernel_rfl) rfl (fun i hi => ?_)
  simp only [List.mem_cons, List.not_mem_nil, or_false] at hi
  rcases hi with rfl | rfl | rfl
  ·
   refine VGo.of rfl ?_
   refine VL.lit (α := Str) (xs := [.tmp 51]) (vs := [str line]) [line] Tryz.underlying82 lit9 (by decide) rfl rfl rfl rfl (by decide) (fun _ _ _ _ => trivial) (by decide) (fun s52 hs52 => ?_) (by decide)
   exact VL.backE (D' := [(28, x.out.val), (27, Zp o 4), (26, Zp o 0), (21, x.theirs.val), (20, Zp o 2), (19, Zp o 0), (14, x.ours.val), (13, Zp o 1), (12, Zp o 0), (7, x.base.val), (6, Zp o 0), (5, Zp o 0)]) (ks := [0, 2, 3, 43, 44, 45, 46, 47, 48, 49, 50, 54, 55, 56, 57, 58, 61, 62, 63, 64, 65, 68, 69, 70, 71, 52, 73]) (Pend.cons rfl (q_elfo (s := o) one82 rfl hx rfl) (Pend.cons rfl (q_field fa261_4 rfl) (Pend.cons rfl (q_nilCheck rfl) (Pend.cons rfl (q_elfo (s := o) one82 rfl hx rfl) (Pend.cons rfl (q_field fa261_2 rfl) (Pend.cons rfl (q_nilCheck rfl) (Pend.cons rfl (q_elfo (s := o) one82 rfl hx rfl) (Pend.cons rfl (q_field fa261_1 rfl) (Pend.cons rfl (q_nilCheck rfl) (Pend.cons rfl (q_elfo (s := o) one82 rfl hx rfl) (Pend.cons rfl (q_field fa261_0 rfl) (Pend.cons rfl (q_nilCheck rfl) (Pend.nil))))))))))))) (by kernel_rfl) (by kernel_rfl) rfl (key_9_30 (s52, s73) ⟨hs52, hs73⟩)
  ·
   refine VGo.of rfl ?_
   refine VL.lit (α := Str) (xs := [.tmp 58]) (vs := [str line]) [line] Tryz.underlying82 lit9 (by decide) rfl rfl rfl rfl (by decide) (fun _ _ _ _ => trivial) (by decide) (fun s59 hs59 => ?_) (by decide)
   exact VL.backE (D' := [(28, x.out.val), (27, Zp o 4), (26, Zp o 0), (21, x.theirs.val), (20, Zp o 2), (19, Zp o 0), (14, x.ours.val), (13, Zp o 1), (12, Zp o 0), (7, x.base.val), (6, Zp o 0), (5, Zp o 0)]) (ks := [0, 2, 3, 43, 44, 45, 46, 47, 48, 49, 50, 51, 54, 55, 56, 57, 61, 62, 63, 64, 65, 68, 69, 70, 71, 59, 73]) (Pend.cons rfl (q_elfo (s := o) one82 rfl hx rfl) (Pend.cons rfl (q_field fa261_4 rfl) (Pend.cons rfl (q_nilCheck rfl) (Pend.cons rfl (q_elfo (s := o) one82 rfl hx rfl) (Pend.cons rfl (q_field fa261_2 rfl) (Pend.cons rfl (q_nilCheck rfl) (Pend.cons rfl (q_elfo (s := o) one82 rfl hx rfl) (Pend.cons rfl (q_field fa261_1 rfl) (Pend.cons rfl (q_nilCheck rfl) (Pend.cons rfl (q_elfo (s := o) one82 rfl hx rfl) (Pend.cons rfl (q_field fa261_0 rfl) (Pend.cons rfl (q_nilCheck rfl) (Pend.nil))))))))))))) (by kernel_rfl) (by kernel_rfl) rfl (key_16_30 (s59, s73) ⟨hs59, hs73⟩)
  refine VGo.of rfl ?_
  refine VL.lit (α := Str) (xs := [.tmp 65]) (vs := [str line]) [line] Tryz.underlying82 lit9 (by decide) rfl rfl rfl rfl (by decide) (fun _ _ _ _ => trivial) (by decide) (fun s66 hs66 => ?_) (by decide)
  exact VL.backE (D' := [(28, x.out.val), (27, Zp o 4), (26, Zp o 0), (21, x.theirs.val), (20, Zp o 2), (19, Zp o 0), (14, x.ours.val), (13, Zp o 1), (12, Zp o 0), (7, x.base.val), (6, Zp o 0), (5, Zp o 0)]) (ks := [0, 2, 3, 43, 44, 45, 46, 47, 48, 49, 50, 51, 54, 55, 56, 57, 58, 61, 62, 63, 64, 68, 69, 70, 71, 66, 73]) (Pend.cons rfl (q_elfo (s := o) one82 rfl hx rfl) (Pend.cons rfl (q_field fa261_4 rfl) (Pend.cons rfl (q_nilCheck rfl) (Pend.cons rfl (q_elfo (s := o) one82 rfl hx rfl) (Pend.cons rfl (q_field fa261_2 rfl) (Pend.cons rfl (q_nilCheck rfl) (Pend.cons rfl (q_elfo (s := o) one82 rfl hx rfl) (Pend.cons rfl (q_field fa261_1 rfl) (Pend.cons rfl (q_nilCheck rfl) (Pend.cons rfl (q_elfo (s := o) one82 rfl hx rfl) (Pend.cons rfl (q_field fa261_0 rfl) (Pend.cons rfl (q_nilCheck rfl) (Pend.nil))))))))))))) (by kernel_rfl) (by kernel_rfl) rfl (key_23_30 (s66, s73) ⟨hs66, hs73⟩)
 refine VG.fork (l := [9, 16, 23, 30]) (by kernel_rfl) rfl (fun i hi => ?_)
 simp only [List.mem_cons, List.not_mem_nil, or_false] at hi
 rcases hi with rfl | rfl | rfl | rfl
 ·
  refine VGo.of rfl ?_
  refine VL.lit (α := Str) (xs := [.tmp 51]) (vs := [str line]) [line] Tryz.underlying82 lit9 (by decide) rfl rfl rfl rfl (by decide) (fun _ _ _ _ => trivial) (by decide) (fun s52 hs52 => ?_) (by decide)
  exact VL.backE (D' := [(28, x.out.val), (27, Zp o 4), (26, Zp o 0), (21, x.theirs.val), (20, Zp o 2), (19, Zp o 0), (14, x.ours.val), (13, Zp o 1), (12, Zp o 0), (7, x.base.val), (6, Zp o 0), (5, Zp o 0)]) (ks := [0, 2, 3, 43, 44, 45, 46, 47, 48, 49, 50, 54, 55, 56, 57, 58, 61, 62, 63, 64, 65, 68, 69, 70, 71, 72, 52]) (Pend.cons rfl (q_elfo (s := o) one82 rfl hx rfl) (Pend.cons rfl (q_field fa261_4 rfl) (Pend.cons rfl (q_nilCheck rfl) (Pend.cons rfl (q_elfo (s := o) one82 rfl hx rfl) (Pend.cons rfl (q_field fa261_2 rfl) (Pend.cons rfl (q_nilCheck rfl) (Pend.cons rfl (q_elfo (s := o) one82 rfl hx rfl) (Pend.cons rfl (q_field fa261_1 rfl) (Pend.cons rfl (q_nilCheck rfl) (Pend.cons rfl (q_elfo (s := o) one82 rfl hx rfl) (Pend.cons rfl (q_field fa261_0 rfl) (Pend.cons rfl (q_nilCheck rfl) (Pend.nil))))))))))))) (by kernel_rfl) (by kernel_rfl) rfl (key_9 (s52) (hs52))
 ·
  refine VGo.of rfl ?_
  refine VL.lit (α := Str) (xs := [.tmp 58]) (vs := [str line]) [line] Tryz.underlying82 lit9 (by decide) rfl rfl rfl rfl (by decide) (fun _ _ _ _ => trivial) (by decide) (fun s59 hs59 => ?_) (by decide)
  exact VL.backE (D' := [(28, x.out.val), (27, Zp o 4), (26, Zp o 0), (21, x.theirs.val), (20, Zp o 2), (19, Zp o 0), (14, x.ours.val), (13, Zp o 1), (12, Zp o 0), (7, x.base.val), (6, Zp o 0), (5, Zp o 0)]) (ks := [0, 2, 3, 43, 44, 45, 46, 47, 48, 49, 50, 51, 54, 55, 56, 57, 61, 62, 63, 64, 65, 68, 69, 70, 71, 72, 59]) (Pend.cons rfl (q_elfo (s := o) one82 rfl hx rfl) (Pend.cons rfl (q_field fa261_4 rfl) (Pend.cons rfl (q_nilCheck rfl) (Pend.cons rfl (q_elfo (s := o) one82 rfl hx rfl) (Pend.cons rfl (q_field fa261_2 rfl) (Pend.cons rfl (q_nilCheck rfl) (Pend.cons rfl (q_elfo (s := o) one82 rfl hx rfl) (Pend.cons rfl (q_field fa261_1 rfl) (Pend.cons rfl (q_nilCheck rfl) (Pend.cons rfl (q_elfo (s := o) one82 rfl hx rfl) (Pend.cons rfl (q_field fa261_0 rfl) (Pend.cons rfl (q_nilCheck rfl) (Pend.nil))))))))))))) (by kernel_rfl) (by kernel_rfl) rfl (key_16 (s59) (hs59))
 ·
  refine VGo.of rfl ?_
  refine VL.lit (α := Str) (xs := [.tmp 65]) (vs := [str line]) [line] Tryz.underlying82 lit9 (by decide) rfl rfl rfl rfl (by decide) (fun _ _ _ _ => trivial) (by decide) (fun s66 hs66 => ?_) (by decide)
  exact VL.backE (D' := [(28, x.out.val), (27, Zp o 4), (26, Zp o 0), (21, x.theirs.val), (20, Zp o 2), (19, Zp o 0), (14, x.ours.val), (13, Zp o 1), (12, Zp o 0), (7, x.base.val), (6, Zp o 0), (5, Zp o 0)]) (ks := [0, 2, 3, 43, 44, 45, 46, 47, 48, 49, 50, 51, 54, 55, 56, 57, 58, 61, 62, 63, 64, 68, 69, 70, 71, 72, 66]) (Pend.cons rfl (q_elfo (s := o) one82 rfl hx rfl) (Pend.cons rfl (q_field fa261_4 rfl) (Pend.cons rfl (q_nilCheck rfl) (Pend.cons rfl (q_elfo (s := o) one82 rfl hx rfl) (Pend.cons rfl (q_field fa261_2 rfl) (Pend.cons rfl (q_nilCheck rfl) (Pend.cons rfl (q_elfo (s := o) one82 rfl hx rfl) (Pend.cons rfl (q_field fa261_1 rfl) (Pend.cons rfl (q_nilCheck rfl) (Pend.cons rfl (q_elfo (s := o) one82 rfl hx rfl) (Pend.cons rfl (q_field fa261_0 rfl) (Pend.cons rfl (q_nilCheck rfl) (Pend.nil))))))))))))) (by kernel_rfl) (by kernel_rfl) rfl (key_23 (s66) (hs66))
 refine VGo.of rfl ?_
 refine VL.lit (α := Str) (xs := [.tmp 72]) (vs := [str line]) [line] Tryz.underlying82 lit9 (by decide) rfl rfl rfl rfl (by decide) (fun _ _ _ _ => trivial) (by decide) (fun s73 hs73 => ?_) (by decide)
 exact VL.backE (D' := [(28, x.out.val), (27, Zp o 4), (26, Zp o 0), (21, x.theirs.val), (20, Zp o 2), (19, Zp o 0), (14, x.ours.val), (13, Zp o 1), (12, Zp o 0), (7, x.base.val), (6, Zp o 0), (5, Zp o 0)]) (ks := [0, 2, 3, 43, 44, 45, 46, 47, 48, 49, 50, 51, 54, 55, 56, 57, 58, 61, 62, 63, 64, 65, 68, 69, 70, 71, 73]) (Pend.cons rfl (q_elfo (s := o) one82 rfl hx rfl) (Pend.cons rfl (q_field fa261_4 rfl) (Pend.cons rfl (q_nilCheck rfl) (Pend.cons rfl (q_elfo (s := o) one82 rfl hx rfl) (Pend.cons rfl (q_field fa261_2 rfl) (Pend.cons rfl (q_nilCheck rfl) (Pend.cons rfl (q_elfo (s := o) one82 rfl hx rfl) (Pend.cons rfl (q_field fa261_1 rfl) (Pend.cons rfl (q_nilCheck rfl) (Pend.cons rfl (q_elfo (s := o) one82 rfl hx rfl) (Pend.cons rfl (q_field fa261_0 rfl) (Pend.cons rfl (q_nilCheck rfl) (Pend.nil))))))))))))) (by kernel_rfl) (by kernel_rfl) rfl (key_30 (s73) (hs73))
end Go.Proofs.YtleokmhhloamaaaGreatDoor
end

section
namespace Go.Proofs.YtleokmhhloamaaaGreatDoor
open Go.RowKit Go.V
open Go.P hiding Str
theorem upto_all (p : Nat) (bv ov tv : Sv Str) (o : Sv Ck) (fr : List Ck) (x : Ck) (s : Wk) (i' j' k' : Int) (hR : Rel s o fr x) (i0 : 0 ≤ s.i) (i1 : s.i ≤ i') (i2 : i' ≤ bv.l.length) (j0 : 0 ≤ s.j) (j1 : s.j ≤ j') (j2 : j' ≤ ov.l.length) (k0 : 0 ≤ s.k) (k1 : s.k ≤ k') (k2 : k' ≤ tv.l.length) (hb : bv.l.length ≤ 256) (ho : ov.l.length ≤ 256) (ht : tv.l.length ≤ 256) (hl : o.l.length ≤ 1048576) :
    Ct Tryz.prog 225 [ptr p 0, i64 i', i64 j', i64 k'] ((MA fr).and (bv.ok.and (ov.ok.and tv.ok))) (Ow.star (Blk p [bv.val, ov.val, tv.val, i64 s.i, i64 s.j, i64 s.k, o.val, .bool s.op] 308) (Ow.star (o.own 261) (OpenO s.op x))) (X := Sv Ck × List Ck × Ck) (fun _ => .tuple #[]) (fun y => Rel (put bv.l ov.l tv.l s i' j' k') y.1 y.2.1 y.2.2) (fun y => MA y.2.1) (fun y => Ow.star (Blk p [bv.val, ov.val, tv.val, i64 i', i64 j', i64 k', y.1.val, .bool (put bv.l ov.l tv.l s i' j' k').op] 308) (Ow.star (y.1.own 261) (OpenO (put bv.l ov.l tv.l s i' j' k').op y.2.2))) :=
  ⟨(upto_none p bv ov tv o s.op s.i s.j s.k s.i s.j s.k (by omega) (by omega) (by omega)).entry, fun w h e m ee d l kk => by
    have s0 := St.start m ee d l kk
    obtain ⟨i, j, k, out, op⟩ := s
    dsimp only at *
    by_cases hput : i < i' ∨ j < j' ∨ k < k'
    · have hp : put bv.l ov.l tv.l ⟨i, j, k, out, op⟩ i' j' k' = ⟨i', j', k', out ++ [gapv (sl bv.l i i') (sl ov.l j j') (sl tv.l k k')], false⟩ := if_pos hput
      rw [hp]
      have fin : ∀ (y : Sv Ck × Ck), y.1.l = o.l ++ [y.2] ∧ y.2.pl = gapv (sl bv.l i i') (sl ov.l j j') (sl tv.l k k') → Rel ⟨i', j', k', out ++ [gapv (sl bv.l i i') (sl ov.l j j') (sl tv.l k k')], false⟩ y.1 y.1.l nilck := fun y ⟨q1, q2⟩ =>
        ⟨fun q => (by cases q), fun _ => ⟨rfl, rfl⟩, by rw [q1, List.map_append, hR.out]; simp [q2]⟩
      cases op with
      | true =>
        have s1 : St ⟨w, h, fun b => e b ≠ none⟩ _ (Ow.star (Blk p [bv.val, ov.val, tv.val, i64 i, i64 j, i64 k, o.val, .bool true] 308) (Ow.star (o.own 261) (Ow.star (x.base.own 9) (Ow.star (x.ours.own 9) (Ow.star (x.theirs.own 9) (x.out.own 9)))))) w := s0
        have s2 : St ⟨w, h, fun b => e b ≠ none⟩ (x.base.ok.and (x.ours.ok.and (x.theirs.ok.and (x.out.ok.and ((MA fr).and (bv.ok.and (ov.ok.and tv.ok))))))) (Ow.star (Blk p [bv.val, ov.val, tv.val, i64 i, i64 j, i64 k, o.val, .bool true] 308) (o.own 261)) w := ((((s1.shut x.out 9).shut x.theirs 9).shut x.ours 9).shut x.base 9).mono (fun _ q => q) EntO.out
        refine (Ct.at (upto_ct p bv ov tv o true i j k i' j' k' hput i0 i1 i2 j0 j1 j2 k0 k1 k2 hb ho ht hl) (InM.out (M := x.base.ok.and (x.ours.ok.and (x.theirs.ok.and (x.out.ok.and ((MA fr).and (bv.ok.and (ov.ok.and tv.ok)))))))) Foc.all s2).mono fun en w' ⟨r, h1, y, h2, h3, h4⟩ => ⟨r, h1, (y.1, y.1.l, nilck), h2, fin y h3, ?_⟩
        refine h4.mono (fun hp q => ?_) (by dsimp only; exact EntO.out)
        obtain ⟨q1, q2, q3, q4, q5, q6, _⟩ := q
        show (MA y.1.l).on hp
        rw [h3.1, hR.yes rfl]
        intro z hz
        rcases List.mem_append.1 hz with hz | hz
        · rcases List.mem_append.1 hz with hz | hz
          · exact q6 z hz
          · cases List.mem_singleton.1 hz; exact ⟨q2, q3, q4, q5⟩
        · cases List.mem_singleton.1 hz; exact q1
      | false =>
        have s1 : St ⟨w, h, fun b => e b ≠ none⟩ ((MA fr).and (bv.ok.and (ov.ok.and tv.ok))) (Ow.star (Blk p [bv.val, ov.val, tv.val, i64 i, i64 j, i64 k, o.val, .bool false] 308) (o.own 261)) w := s0.mono (fun _ q => q) (EntO.out (E := Ow.star (Blk p [bv.val, ov.val, tv.val, i64 i, i64 j, i64 k, o.val, .bool false] 308) (Ow.star (o.own 261) Ow.emp)))
        refine (Ct.at (upto_ct p bv ov tv o false i j k i' j' k' hput i0 i1 i2 j0 j1 j2 k0 k1 k2 hb ho ht hl) (InM.out (M := (MA fr).and (bv.ok.and (ov.ok.and tv.ok)))) Foc.all s1).mono fun en w' ⟨r, h1, y, h2, h3, h4⟩ => ⟨r, h1, (y.1, y.1.l, nilck), h2, fin y h3, ?_⟩
        refine h4.mono (fun hp q => ?_) (by dsimp only; exact EntO.out)
        obtain ⟨q1, q6, _⟩ := q
        show (MA y.1.l).on hp
        rw [h3.1, ← (hR.no rfl).1]
        intro z hz
        rcases List.mem_append.1 hz with hz | hz
        · exact q6 z hz
        · cases List.mem_singleton.1 hz; exact q1
    · have hp : put bv.l ov.l tv.l ⟨i, j, k, out, op⟩ i' j' k' = ⟨i', j', k', out, op⟩ := if_neg hput
      rw [hp]
      refine (Ct.at (upto_none p bv ov tv o op i j k i' j' k' (by omega) (by omega) (by omega)) (fun _ _ => trivial) Foc.head s0).mono fun en w' ⟨r, h1, y, h2, h3, h4⟩ => ⟨r, h1, (o, fr, x), h2, ⟨hR.yes, hR.no, hR.out⟩, h4.mono (fun hp q => q.2.1) (fun _ q => q)⟩⟩
end Go.Proofs.YtleokmhhloamaaaGreatDoor
end

section
namespace Go.Proofs.YtleokmhhloamaaaGreatDoor
open Go.RowKit Go.V
open Go.P hiding Str
theorem kept_all (p : Nat) (bv ov tv : Sv Str) (o : Sv Ck) (fr : List Ck) (x : Ck) (s : Wk) (line : Str) (hR : Rel s o fr x) (hline : bv.l[s.i.toNat]? = some line) (i0 : 0 ≤ s.i) (j0 : 0 ≤ s.j) (k0 : 0 ≤ s.k) (i1 : s.i ≤ 1048576) (j1 : s.j ≤ 1048576) (k1 : s.k ≤ 1048576) (hl : o.l.length ≤ 1048576)
 (hsm : ∀ q ∈ s.out, q.base.length ≤ 1048576 ∧ q.ours.length ≤ 1048576 ∧ q.theirs.length ≤ 1048576 ∧ q.out.length ≤ 1048576) :
 Ct Tryz.prog 226 [ptr p 0] bv.ok (Ow.star (Blk p [bv.val, ov.val, tv.val, i64 s.i, i64 s.j, i64 s.k, o.val, .bool s.op] 308) (Ow.star (o.own 261) (OpenO s.op x))) (X := Sv Ck × List Ck × Ck) (fun _ => .tuple #[]) (fun y => Rel (keepW s line) y.1 y.2.1 y.2.2 ∧ y.2.1 = fr) (fun _ => Mo.tt) (fun y => Ow.star (Blk p [bv.val, ov.val, tv.val, i64 (s.i + 1), i64 (s.j + 1), i64 (s.k + 1), y.1.val, .bool true] 308) (Ow.star (y.1.own 261) (OpenO true y.2.2))) := by
 have hx : x.base.l.length ≤ 1048576 ∧ x.ours.l.length ≤ 1048576 ∧ x.theirs.l.length ≤ 1048576 ∧ x.out.l.length ≤ 1048576 := by
   cases hop : s.op with
   | true => exact hsm x.pl (by rw [← hR.out, hR.yes hop]; simp)
   | false => rw [(hR.no hop).2]; simp [nilck]
 have hc := kept_ct p bv ov tv o s.op fr x line s.i s.j s.k hR.yes hR.no hline i0 j0 k0 i1 j1 k1 hl hx.1 hx.2.1 hx.2.2.1 hx.2.2.2
 refine ⟨hc.entry, fun w h e m ee d l kk => (hc.calls w h e m ee d l kk).mono fun en w' ⟨r, h1, y, h2, ⟨q1, q2, q3, q4, q5, q6⟩, h4⟩ => ⟨r, h1, (y.1, fr, y.2), h2, ⟨⟨fun _ => q1, fun q => (by cases q), ?_⟩, rfl⟩, h4⟩⟩
 have hy : y.2.pl = addL x.pl line := by simp [Ck.pl, addL, q2, q3, q4, q5, q6]
 rw [q1, List.map_append, List.map_singleton, hy]
 unfold keepW
 cases hop : s.op with
 | true =>
   have := hR.out
   rw [hR.yes hop] at this
   simp [← this]
 | false =>
   obtain ⟨e1, e2⟩ := hR.no hop
   rw [e1, hR.out, e2]
   simp [nilck, Ck.pl, nilC]
set_option maxRecDepth 100000 in
 theorem clipC_ct (s : Sv Ck) : Ct Tryz.prog 227 [s.val] s.ok Ow.emp (X := Sv Ck) Sv.val (fun q => q.l = s.l) (fun q => q.ok) (fun _ => Ow.emp) := by
 refine Zo Tryz.func227 Tryz.ntmps227 fun c => ?_
 refine Zq (Zr ?_)
 refine Zy ?_
 refine Zq (Zr ?_)
 refine Zy ?_
 refine Zu (q_ln (s := s) Tryz.underlying253 rfl) ?_
 refine Zm ?_
 refine Zu (q_ln (s := s) Tryz.underlying253 rfl) ?_
 refine VL.part (s := s) (0) (((s.l.length : Int)).toNat) Tryz.underlying253 sz261 rfl rfl rfl rfl (by simp) (by simp) (by simp) (by simp) (by omega) (by omega) (by decide) (fun s8 hs8 => ?_)
 refine Zy ?_
 exact VC.ret (fin1I (.inr rfl) rfl rfl s8 rfl ((by simpa using hs8)) (fun _ _ => trivial))
end Go.Proofs.YtleokmhhloamaaaGreatDoor
end

section
namespace Go.P
structure CInv (b o t : List Str) (n : Int) (s : Wk) : Prop where
  n0 : 0 ≤ n
  n1 : n ≤ b.length
  eq : s = wrun b o t (places b o) (places b t) n.toNat
  i0 : 0 ≤ s.i
  i1 : s.i ≤ n
  j0 : 0 ≤ s.j
  j1 : s.j ≤ o.length
  k0 : 0 ≤ s.k
  k1 : s.k ≤ t.length
  ju : ∀ (m : Nat) (u : Int), n ≤ m → (places b o)[m]? = some u → 0 ≤ u → s.j ≤ u
  kv : ∀ (m : Nat) (v : Int), n ≤ m → (places b t)[m]? = some v → 0 ≤ v → s.k ≤ v
  sm : ∀ q ∈ s.out, (q.base.length : Int) ≤ 256 + s.i ∧ (q.ours.length : Int) ≤ 256 + s.i ∧ (q.theirs.length : Int) ≤ 256 + s.i ∧ (q.out.length : Int) ≤ 256 + s.i
  len : (s.out.length : Int) ≤ 2 * n
theorem cinv_start (b o t : List Str) : CInv b o t 0 ⟨0, 0, 0, [], false⟩ :=
  ⟨by omega, by omega, rfl, by simp, by simp, by simp, by simp, by simp, by simp, fun _ _ _ _ h => h, fun _ _ _ _ h => h, (fun _ h => by cases h), by simp⟩
theorem sl_length (l : List Str) (a c : Int) : (sl l a c).length ≤ l.length := by simp [sl]; omega
theorem gapv_len (b o t : List Str) : (gapv b o t).base.length ≤ b.length ∧ (gapv b o t).ours.length ≤ o.length ∧ (gapv b o t).theirs.length ≤ t.length ∧ (gapv b o t).out.length ≤ max o.length t.length := by
  unfold gapv
  split
  · simp; omega
  · split
    · simp; omega
    · split <;> simp <;> omega
theorem put_form (b o t : List Str) (s : Wk) (i j k : Int) : ∃ out op, put b o t s i j k = ⟨i, j, k, out, op⟩ := by
  unfold put; split <;> exact ⟨_, _, rfl⟩
def Sm (N : Int) (l : List Chunk) : Prop := ∀ q ∈ l, (q.base.length : Int) ≤ N ∧ (q.ours.length : Int) ≤ N ∧ (q.theirs.length : Int) ≤ N ∧ (q.out.length : Int) ≤ N
theorem Sm.up {N N' : Int} {l : List Chunk} (h : Sm N l) (hn : N ≤ N') : Sm N' l := fun q hq => by have := h q hq; omega
theorem put_sm {b o t : List Str} {s : Wk} {i j k N : Int} (hb : b.length ≤ 256) (ho : o.length ≤ 256) (ht : t.length ≤ 256) (hN : 256 ≤ N) (h : Sm N s.out) : Sm N (put b o t s i j k).out ∧ (put b o t s i j k).out.length ≤ s.out.length + 1 := by
  unfold put
  split
  · refine ⟨fun q hq => ?_, by simp⟩
    rcases List.mem_append.1 hq with hq | hq
    · exact h q hq
    · cases List.mem_singleton.1 hq
      have := gapv_len (sl b s.i i) (sl o s.j j) (sl t s.k k)
      have := sl_length b s.i i
      have := sl_length o s.j j
      have := sl_length t s.k k
      omega
  · exact ⟨h, by simp⟩
theorem keep_sm {s : Wk} {line : Str} {N : Int} (hN : 0 ≤ N) (h : Sm N s.out) : Sm (N + 1) (keepW s line).out ∧ (keepW s line).out.length ≤ s.out.length + 1 := by
  have hl : Sm N [(if s.op then s.out.getLastD nilC else nilC)] := fun q hq => by
    cases List.mem_singleton.1 hq
    split
    · rw [List.getLastD_eq_getLast?]
      cases hg : s.out.getLast? with
      | none => simp [nilC]; omega
      | some q => exact h q (List.mem_of_getLast? hg)
    · simp [nilC]; omega
  have hl' := hl _ (List.mem_singleton.2 rfl)
  unfold keepW
  refine ⟨fun q hq => ?_, ?_⟩
  · rcases List.mem_append.1 hq with hq | hq
    · have := h q (by
        split at hq
        · exact List.dropLast_subset _ hq
        · exact hq)
      omega
    · cases List.mem_singleton.1 hq
      simp only [addL, List.length_append, List.length_singleton]
      omega
  · simp only [List.length_append, List.length_singleton]
    split
    · simp
    · omega
theorem cinv_keep {b o t : List Str} {n u v : Int} {s : Wk} {line : Str} (h : CInv b o t n s) (hb : b.length ≤ 256) (ho : o.length ≤ 256) (ht : t.length ≤ 256) (hu : (places b o)[n.toNat]? = some u) (hv : (places b t)[n.toNat]? = some v) (hl : b[n.toNat]? = some line) (u0 : 0 ≤ u) (v0 : 0 ≤ v) :
    CInv b o t (n + 1) (keepW (put b o t s n u v) line) := by
  obtain ⟨n0, n1, eq, i0, i1, j0, j1, k0, k1, ju, kv, sm, len⟩ := h
  have hlt := (List.getElem?_eq_some_iff.1 hl).1
  obtain ⟨out, op, hp⟩ := put_form b o t s n u v
  have hsm := put_sm (b := b) (o := o) (t := t) (s := s) (i := n) (j := u) (k := v) hb ho ht (N := 256 + n) (by omega) (Sm.up (N := 256 + s.i) sm (by omega))
  have hks := keep_sm (s := put b o t s n u v) (line := line) (N := 256 + n) (by omega) hsm.1
  have hu1 := places_range b o u (List.mem_of_getElem? hu) u0
  have hv1 := places_range b t v (List.mem_of_getElem? hv) v0
  have e1 : (keepW (put b o t s n u v) line).i = n + 1 ∧ (keepW (put b o t s n u v) line).j = u + 1 ∧ (keepW (put b o t s n u v) line).k = v + 1 := by rw [hp]; exact ⟨rfl, rfl, rfl⟩
  obtain ⟨e1, e2, e3⟩ := e1
  refine ⟨by omega, by omega, ?_, by omega, by omega, by omega, by omega, by omega, by omega, fun m w hm hw hw0 => ?_, fun m w hm hw hw0 => ?_, ?_, ?_⟩
  · rw [show (n + 1).toNat = n.toNat + 1 by omega]
    simp only [wrun, wstep, hu, hv, hl]
    rw [← eq, if_pos ⟨u0, v0⟩, show ((n.toNat : Nat) : Int) = n by omega]
  · have := places_mono b o n.toNat m u w hu hw (by omega) u0 hw0
    omega
  · have := places_mono b t n.toNat m v w hv hw (by omega) v0 hw0
    omega
  · rw [e1]
    exact Sm.up hks.1 (by omega)
  · have := hks.2
    have := hsm.2
    omega
theorem cinv_pass {b o t : List Str} {n u v : Int} {s : Wk} (h : CInv b o t n s) (hu : (places b o)[n.toNat]? = some u) (hv : (places b t)[n.toNat]? = some v) (hn : n < b.length) (h0 : ¬ (0 ≤ u ∧ 0 ≤ v)) : CInv b o t (n + 1) s := by
  obtain ⟨n0, n1, eq, i0, i1, j0, j1, k0, k1, ju, kv, sm, len⟩ := h
  refine ⟨by omega, by omega, ?_, i0, by omega, j0, j1, k0, k1, fun m w hm => ju m w (by omega), fun m w hm => kv m w (by omega), sm, by omega⟩
  rw [show (n + 1).toNat = n.toNat + 1 by omega]
  obtain ⟨line, hl⟩ : ∃ z, b[n.toNat]? = some z := ⟨_, List.getElem?_eq_getElem (by omega)⟩
  simp only [wrun, wstep, hu, hv, hl]
  rw [if_neg h0]
  exact eq
end Go.P
namespace Go.P
theorem join_take {l : List Str} {i : Int} {z : Str} (h0 : 0 ≤ i) (h : l[i.toNat]? = some z) : join (l.take (i + 1).toNat) = join (l.take i.toNat) ++ z := by
  rw [show (i + 1).toNat = i.toNat + 1 by omega, List.take_add_one, h, join_flat, join_flat]
  simp
theorem join_take_le (l : List Str) (k : Nat) : (join (l.take k)).length ≤ (join l).length := by
  rw [join_flat, join_flat]
  conv => rhs; rw [← List.take_append_drop k l]
  rw [List.flatten_append, List.length_append]
  omega
end Go.P
end

section
namespace Go.Proofs.YtleokmhhloamaaaGreatDoor
open Go.RowKit Go.V
open Go.P hiding Str
set_option maxHeartbeats 4000000 in
 set_option maxRecDepth 100000 in
 theorem chunks_ct (a b d : Sv Str) (ha : a.l.length ≤ 256) (hb : b.l.length ≤ 256) (hd : d.l.length ≤ 256) :
 Ct Tryz.prog 180 [a.val, b.val, d.val] (a.ok.and (b.ok.and d.ok)) Ow.emp (X := Sv Ck) (fun q => .tuple #[q.val, .nilIface]) (fun q => q.l.map Ck.pl = chunks a.l b.l d.l) (fun q => q.ok) (fun _ => Ow.emp) := by
 refine Zo Tryz.func180 Tryz.ntmps180 fun c => ?_
 refine Zq (Zr ?_)
 refine Zy ?_
 refine Zq (Zr ?_)
 refine Zy ?_
 refine VL.callF (places_ct a b (by omega) (by omega)) rfl (by decide) ?_
 rintro s18 hs18
 refine Zm ?_
 refine Zu (q_extract rfl rfl) ?_
 refine Zu (q_extract rfl rfl) ?_
 refine Zy ?_
 refine Zq (Zq (Zr ?_))
 refine Zm ?_
 refine Zu (q_nilne Tryz.underlying29 rfl) ?_
 refine Zl ?_
 refine VC.cond_f rfl ?_
 refine Zk ?_
 refine Zq (Zr ?_)
 refine Zy ?_
 refine VL.callF (places_ct a d (by omega) (by omega)) rfl (by decide) ?_
 rintro s27 hs27
 refine Zm ?_
 refine Zu (q_extract rfl rfl) ?_
 refine Zu (q_extract rfl rfl) ?_
 refine Zy ?_
 refine Zq (Zq (Zr ?_))
 refine Zm ?_
 refine Zu (q_nilne Tryz.underlying29 rfl) ?_
 refine Zl ?_
 refine VC.cond_f rfl ?_
 refine Zk ?_
 refine Zq (Zr ?_)
 refine Zy ?_
 refine Zu (q_build (vs := [(0, a.val), (1, b.val), (2, d.val)]) (cs := #[a.val, b.val, d.val, i64 0, i64 0, i64 0, .slice none 0 0, .bool false]) rfl (by kernel_rfl)) ?_
 refine VL.box (cs := [a.val, b.val, d.val, i64 0, i64 0, i64 0, .slice none 0 0, .bool false]) rfl rfl (by decide) fun b37 => ?_
 refine Zy ?_
 refine Zq (Zq (Zr ?_))
 refine Zm ?_
 refine Zu (q_ln (s := a) Tryz.underlying82 rfl) ?_
 refine Zy ?_
 refine Zb ?_
 refine VC.withM (a.ok.and (b.ok.and (d.ok.and (s18.ok.and s27.ok)))) ?_
 refine VC.nilO (⟨none, 0, []⟩ : Sv Ck) 261 ⟨rfl, rfl⟩ ?_
 refine VC.mono (fun _ h => h) (E' := Ow.star ((⟨none, 0, []⟩ : Sv Ck).own 261) (Ow.star (Blk b37 [a.val, b.val, d.val, i64 0, i64 0, i64 0, (⟨none, 0, []⟩ : Sv Ck).val, .bool false] 308) Ow.emp)) (fun _ h => h) ?_
 have hl18 : s18.l.length = a.l.length := by rw [hs18, places_len]
 have hl27 : s27.l.length = a.l.length := by rw [hs27, places_len]
 refine VC.loopM (S := Int × Wk × Sv Ck × List Ck × Ck) (fun sg => CInv a.l b.l d.l sg.1 sg.2.1 ∧ Rel sg.2.1 sg.2.2.1 sg.2.2.2.1 sg.2.2.2.2) (fun sg => [(0, a.val), (1, b.val), (2, d.val), (6, .slice none 0 0), (7, .nilIface), (8, s18.val), (9, .nilIface), (10, s27.val), (11, ptr b37 0), (39, i64 (a.l.length : Int)), (40, i64 sg.1)]) (fun sg => (MA sg.2.2.2.1).and (a.ok.and (b.ok.and (d.ok.and (s18.ok.and s27.ok))))) (fun sg => Ow.star (Blk b37 [a.val, b.val, d.val, i64 sg.2.1.i, i64 sg.2.1.j, i64 sg.2.1.k, sg.2.2.1.val, .bool sg.2.1.op] 308) (Ow.star (Sv.own sg.2.2.1 261) (Ow.star (OpenO sg.2.1.op sg.2.2.2.2) (Ow.emp)))) (fun sg => (a.l.length - sg.1).toNat) (0, ⟨0, 0, 0, [], false⟩, ⟨none, 0, []⟩, [], nilck) [0, 1, 2, 6, 7, 8, 9, 10, 11, 39, 40] (by (try dsimp only); exact ⟨cinv_start _ _ _, ⟨fun h => (by cases h), fun _ => ⟨rfl, rfl⟩, rfl⟩⟩) rfl (fun _ q => ⟨fun z hz => (by cases hz), q⟩) (by (try dsimp only); exact EntO.out) ?_
 rintro ⟨n, s, o, fr, x⟩ hI
 show VC _ _ _ _ _ [(0, a.val), (1, b.val), (2, d.val), (6, .slice none 0 0), (7, .nilIface), (8, s18.val), (9, .nilIface), (10, s27.val), (11, ptr b37 0), (39, i64 (a.l.length : Int)), (40, i64 n)] ((MA fr).and (a.ok.and (b.ok.and (d.ok.and (s18.ok.and s27.ok))))) (Ow.star (Blk b37 [a.val, b.val, d.val, i64 s.i, i64 s.j, i64 s.k, o.val, .bool s.op] 308) (Ow.star (Sv.own o 261) (Ow.star (OpenO s.op x) (Ow.emp))))
 try dsimp only at hI
 obtain ⟨hC, hR⟩ := hI
 have c1 := hC.n0
 have c2 := hC.n1
 have c3 := hC.i0
 have c4 := hC.i1
 have c5 := hC.j0
 have c6 := hC.j1
 have c7 := hC.k0
 have c8 := hC.k1
 have c9 := hC.len
 have c10 : o.l.length = s.out.length := by rw [← hR.out]; simp
 refine Zq (Zr ?_)
 refine Zu (q_lss rfl rfl) ?_
 refine Zl ?_
 refine Zq ?_
 refine VC.cond_dec rfl (fun h41 => ?_) (fun h41 => ?_)
 ·
  refine Zk ?_
  refine Zq (Zb (Zq (Zr ?_)))
  refine Zy ?_
  refine Zq (Zr ?_)
  refine Zy ?_
  obtain ⟨z45, hz45⟩ : ∃ z, s18.l[(n).toNat]? = some z := ⟨_, List.getElem?_eq_getElem (by omega)⟩
  refine Zu (q_ixm (s := s18) Tryz.underlying26 sz3 rfl rfl (by omega) (by omega)) ?_
  refine Zu (q_el (s := s18) one3 rfl hz45 rfl) ?_
  refine Zu (q_geq rfl rfl) ?_
  refine Zm ?_
  refine VL.split_dec 48 rfl (fun h48 => ?_) (fun h48 => ?_)
  ·
   refine Zy ?_
   obtain ⟨z51, hz51⟩ : ∃ z, s27.l[(n).toNat]? = some z := ⟨_, List.getElem?_eq_getElem (by omega)⟩
   refine Zh (q_ixm (s := s27) Tryz.underlying26 sz3 rfl rfl (by omega) (by omega)) ?_
   refine Zh (q_el (s := s27) one3 rfl hz51 rfl) ?_
   refine Zh (q_geq rfl rfl) ?_
   refine Zy ?_
   refine VC.cond_dec rfl (fun h54 => ?_) (fun h54 => ?_)
   ·
    refine Zq ?_
    obtain ⟨line, hline⟩ : ∃ z, a.l[n.toNat]? = some z := ⟨_, List.getElem?_eq_getElem (by omega)⟩
    have hzu : (places a.l b.l)[n.toNat]? = some z45 := by rw [← hs18]; exact hz45
    have hzv : (places a.l d.l)[n.toNat]? = some z51 := by rw [← hs27]; exact hz51
    have hju := hC.ju n.toNat z45 (by omega) hzu (by assumption)
    have hkv := hC.kv n.toNat z51 (by omega) hzv (by assumption)
    have hur := places_range a.l b.l z45 (List.mem_of_getElem? hzu) (by assumption)
    have hvr := places_range a.l d.l z51 (List.mem_of_getElem? hzv) (by assumption)
    refine VC.draw [(0, true), (1, true), (2, true), (3, true), (4, true), (5, true), (6, true), (7, true), (8, true), (9, true), (10, false)] mixed (by kernel_rfl) (by kernel_rfl) (by kernel_rfl) ?_
    refine Zw rfl (q_move rfl) ?_
    refine Zw rfl (q_move rfl) ?_
    refine Zw rfl (q_move rfl) ?_
    refine Zw rfl (q_move rfl) ?_
    refine Zw rfl (q_ixm (s := s18) Tryz.underlying26 sz3 rfl rfl (by omega) (by omega)) ?_
    refine Zw rfl (q_el (s := s18) one3 rfl hz45 rfl) ?_
    refine Zw rfl (q_move rfl) ?_
    refine Zw rfl (q_move rfl) ?_
    refine Zw rfl (q_ixm (s := s27) Tryz.underlying26 sz3 rfl rfl (by omega) (by omega)) ?_
    refine Zw rfl (q_el (s := s27) one3 rfl hz51 rfl) ?_
    refine VD.one rfl ?_
    obtain ⟨out1, op1, hput⟩ := put_form a.l b.l d.l s n z45 z51
    refine VL.callO (upto_all b37 a b d o fr x s n z45 z51 hR (by omega) (by omega) (by omega) (by omega) (by omega) (by omega) (by omega) (by omega) (by omega) ha hb hd (by omega)) rfl (by decide) ?_
    rintro ⟨o1, fr1, x1⟩ hR1
    dsimp only at hR1
    rw [hput] at hR1
    simp only [hput]
    refine VL.back (D' := []) (by kernel_rfl) (Pend.nil) ?_
    refine VD.to (fun _ _ h => h) ?_
    have hps := put_sm (b := a.l) (o := b.l) (t := d.l) (s := s) (i := n) (j := z45) (k := z51) ha hb hd (N := 256 + n) (by omega) (Sm.up (N := 256 + s.i) hC.sm (by omega))
    rw [hput] at hps
    have hlen1 : o1.l.length ≤ 1048576 := by have := congrArg List.length hR1.out; simp at this; have := hps.2; dsimp only at this; omega
    have hsm1 : ∀ q ∈ out1, q.base.length ≤ 1048576 ∧ q.ours.length ≤ 1048576 ∧ q.theirs.length ≤ 1048576 ∧ q.out.length ≤ 1048576 := fun q hq => by have := hps.1 q hq; omega
    refine Zr ?_
    refine Zm ?_
    have hk := kept_all b37 a b d o1 fr1 x1 ⟨n, z45, z51, out1, op1⟩ line hR1 hline (by dsimp only; omega) (by dsimp only; omega) (by dsimp only; omega) (by dsimp only; omega) (by dsimp only; omega) (by dsimp only; omega) hlen1 hsm1
    dsimp only at hk
    refine VL.callO (hk) rfl (by decide) ?_
    rintro ⟨o2, fr2, x2⟩ ⟨hR2, hfr2⟩
    dsimp only at hR2 hfr2
    dsimp only
    refine Zl ?_
    refine Zr ?_
    refine Zu (q_add rfl rfl ⟨by omega, by omega⟩) ?_
    refine Zm ?_
    refine VL.any ((n + 1), ⟨n + 1, z45 + 1, z51 + 1, (keepW ⟨n, z45, z51, out1, op1⟩ line).out, true⟩, o2, fr2, x2) [0, 1, 2, 6, 7, 8, 9, 10, 11, 39, 40] (fun _ _ h => h) ?_ rfl (fun _ q => ⟨by have := q.2.1; rw [hfr2]; exact this, q.2.2.2⟩) (by (try dsimp only); exact EntO.out)
    try dsimp only
    first
      | exact ⟨⟨by have := cinv_keep hC ha hb hd hzu hzv hline (by assumption) (by assumption); rw [hput] at this; exact this, hR2⟩, by omega⟩
      | exact ⟨⟨cinv_pass hC (v := z51) (by rw [← hs18]; exact hz45) (by rw [← hs27]; exact hz51) (by omega) (by omega), hR⟩, by omega⟩
      | exact ⟨⟨cinv_pass hC (u := z45) (v := s27.l[n.toNat]'(by omega)) (by rw [← hs18]; exact hz45) (by rw [← hs27]; exact List.getElem?_eq_getElem (by omega)) (by omega) (by omega), hR⟩, by omega⟩
   refine Zk ?_
   refine Zr ?_
   refine Zu (q_add rfl rfl ⟨by omega, by omega⟩) ?_
   refine Zm ?_
   refine VL.any ((n + 1), s, o, fr, x) [0, 1, 2, 6, 7, 8, 9, 10, 11, 39, 40] (fun _ _ h => h) ?_ rfl (fun _ q => q) (by (try dsimp only); exact EntO.out)
   try dsimp only
   first
     | exact ⟨⟨by have := cinv_keep hC ha hb hd hzu hzv hline (by assumption) (by assumption); rw [hput] at this; exact this, hR2⟩, by omega⟩
     | exact ⟨⟨cinv_pass hC (v := z51) (by rw [← hs18]; exact hz45) (by rw [← hs27]; exact hz51) (by omega) (by omega), hR⟩, by omega⟩
     | exact ⟨⟨cinv_pass hC (u := z45) (v := s27.l[n.toNat]'(by omega)) (by rw [← hs18]; exact hz45) (by rw [← hs27]; exact List.getElem?_eq_getElem (by omega)) (by omega) (by omega), hR⟩, by omega⟩
  refine Zy ?_
  refine VC.cond_f rfl ?_
  refine Zk ?_
  refine Zr ?_
  refine Zu (q_add rfl rfl ⟨by omega, by omega⟩) ?_
  refine Zm ?_
  refine VL.any ((n + 1), s, o, fr, x) [0, 1, 2, 6, 7, 8, 9, 10, 11, 39, 40] (fun _ _ h => h) ?_ rfl (fun _ q => q) (by (try dsimp only); exact EntO.out)
  try dsimp only
  first
    | exact ⟨⟨by have := cinv_keep hC ha hb hd hzu hzv hline (by assumption) (by assumption); rw [hput] at this; exact this, hR2⟩, by omega⟩
    | exact ⟨⟨cinv_pass hC (v := z51) (by rw [← hs18]; exact hz45) (by rw [← hs27]; exact hz51) (by omega) (by omega), hR⟩, by omega⟩
    | exact ⟨⟨cinv_pass hC (u := z45) (v := s27.l[n.toNat]'(by omega)) (by rw [← hs18]; exact hz45) (by rw [← hs27]; exact List.getElem?_eq_getElem (by omega)) (by omega) (by omega), hR⟩, by omega⟩
 refine Zx ?_
 refine Zq (Zr ?_)
 refine Zy ?_
 refine Zu (q_ln (s := a) Tryz.underlying82 rfl) ?_
 refine Zm ?_
 refine Zu (q_ln (s := b) Tryz.underlying82 rfl) ?_
 refine Zm ?_
 refine Zu (q_ln (s := d) Tryz.underlying82 rfl) ?_
 obtain ⟨out1, op1, hput⟩ := put_form a.l b.l d.l s (a.l.length : Int) (b.l.length : Int) (d.l.length : Int)
 refine VL.callO (upto_all b37 a b d o fr x s (a.l.length : Int) (b.l.length : Int) (d.l.length : Int) hR (by omega) (by omega) (by omega) (by omega) (by omega) (by omega) (by omega) (by omega) (by omega) ha hb hd (by omega)) rfl (by decide) ?_
 rintro ⟨o1, fr1, x1⟩ hR1
 dsimp only at hR1
 rw [hput] at hR1
 simp only [hput]
 refine Zl ?_
 refine Zq (Zq ?_)
 have hch : o1.l.map Ck.pl = chunks a.l b.l d.l := by
   rw [hR1.out]
   have he : n.toNat = a.l.length := by omega
   have h2 := hC.eq
   rw [he] at h2
   unfold chunks
   rw [← h2, hput]
 have hl1 : o1.l.length ≤ 1048576 := by
   have h2 := congrArg List.length hR1.out
   simp at h2
   have hps := (put_sm (b := a.l) (o := b.l) (t := d.l) (s := s) (i := (a.l.length : Int)) (j := (b.l.length : Int)) (k := (d.l.length : Int)) ha hb hd (N := 256 + n) (by omega) (Sm.up (N := 256 + s.i) hC.sm (by omega))).2
   rw [hput] at hps
   dsimp only at hps
   omega
 refine Zr ?_
 refine Zm ?_
 refine Zu (q_nilCheck rfl) ?_
 refine Zu (q_field fa308_6 rfl) ?_
 refine Zu (q_fe one253 rfl rfl) ?_
 refine Zu (q_ln (s := o1) Tryz.underlying253 rfl) ?_
 refine Zy ?_
 refine Zb ?_
 refine VC.closeO op1 rfl hR1 ?_
 refine VC.withM ((MA o1.l).and (a.ok.and (b.ok.and (d.ok.and (s18.ok.and s27.ok))))) ?_
 refine VC.loopM (S := Int × Sv Ck) (fun sg => 0 ≤ sg.1 ∧ sg.1 ≤ sg.2.l.length ∧ sg.2.l.length = o1.l.length ∧ sg.2.l.map Ck.pl = chunks a.l b.l d.l) (fun sg => [(0, a.val), (1, b.val), (2, d.val), (6, .slice none 0 0), (7, .nilIface), (8, s18.val), (9, .nilIface), (10, s27.val), (11, ptr b37 0), (39, i64 (a.l.length : Int)), (40, i64 n), (81, i64 (o1.l.length : Int)), (82, i64 sg.1)]) (fun sg => (MA sg.2.l).and (a.ok.and (b.ok.and (d.ok.and (s18.ok.and s27.ok))))) (fun sg => Ow.star (Blk b37 [a.val, b.val, d.val, i64 (a.l.length : Int), i64 (b.l.length : Int), i64 (d.l.length : Int), sg.2.val, .bool op1] 308) (Ow.star (Sv.own sg.2 261) (Ow.emp))) (fun sg => (sg.2.l.length - sg.1).toNat) (0, o1) [0, 1, 2, 6, 7, 8, 9, 10, 11, 39, 40, 81, 82] (by (try dsimp only); exact ⟨by omega, by omega, rfl, hch⟩) rfl (fun _ q => q) (by (try dsimp only); exact EntO.out) ?_
 rintro ⟨m, o3⟩ hI
 show VC _ _ _ _ _ [(0, a.val), (1, b.val), (2, d.val), (6, .slice none 0 0), (7, .nilIface), (8, s18.val), (9, .nilIface), (10, s27.val), (11, ptr b37 0), (39, i64 (a.l.length : Int)), (40, i64 n), (81, i64 (o1.l.length : Int)), (82, i64 m)] ((MA o3.l).and (a.ok.and (b.ok.and (d.ok.and (s18.ok.and s27.ok))))) (Ow.star (Blk b37 [a.val, b.val, d.val, i64 (a.l.length : Int), i64 (b.l.length : Int), i64 (d.l.length : Int), o3.val, .bool op1] 308) (Ow.star (Sv.own o3 261) (Ow.emp)))
 try dsimp only at hI
 obtain ⟨m0, m1, hol3, hmap⟩ := hI
 refine Zq (Zr ?_)
 refine Zu (q_lss rfl rfl) ?_
 refine Zl ?_
 refine Zq ?_
 refine VC.cond_dec rfl (fun h83 => ?_) (fun h83 => ?_)
 ·
  refine Zk ?_
  refine Zq (Zb (Zq (Zr ?_)))
  refine Zy ?_
  refine Zq (Zr ?_)
  refine Zm ?_
  refine Zu (q_nilCheck rfl) ?_
  refine Zu (q_field fa308_6 rfl) ?_
  refine Zu (q_fe one253 rfl rfl) ?_
  refine Zm ?_
  obtain ⟨z90, hz90⟩ : ∃ z, o3.l[(m).toNat]? = some z := ⟨_, List.getElem?_eq_getElem (by omega)⟩
  refine Zu (q_ixo (s := o3) Tryz.underlying253 sz261 rfl rfl (by omega) (by omega)) ?_
  refine Zy ?_
  refine VC.addM z90.m (fun h q => q.1 z90 (List.mem_of_getElem? hz90)) ?_
  refine VC.draw [(0, true), (1, true), (2, true), (3, true), (4, true), (5, true), (6, true), (7, true), (9, true), (10, true), (11, true), (12, true), (14, true), (15, true), (16, true), (17, true), (19, true), (20, true), (21, true), (22, true), (8, false), (13, false), (18, false), (23, false), (24, true), (25, true), (26, false), (27, true), (28, true), (29, false), (30, true), (31, true), (32, false), (33, true), (34, true), (35, false)] mixed (by kernel_rfl) (by kernel_rfl) (by kernel_rfl) ?_
  refine Zw rfl (q_move rfl) ?_
  refine Zw rfl (q_move rfl) ?_
  refine Zw rfl (q_move rfl) ?_
  refine Zw rfl (q_move rfl) ?_
  refine Zw rfl (q_move rfl) ?_
  refine Zw rfl (q_nilCheck rfl) ?_
  refine Zw rfl (q_field fa261_0 rfl) ?_
  refine Zw rfl (q_elfo (s := o3) one82 rfl hz90 rfl) ?_
  refine Zw rfl (q_move rfl) ?_
  refine Zw rfl (q_nilCheck rfl) ?_
  refine Zw rfl (q_field fa261_1 rfl) ?_
  refine Zw rfl (q_elfo (s := o3) one82 rfl hz90 rfl) ?_
  refine Zw rfl (q_move rfl) ?_
  refine Zw rfl (q_nilCheck rfl) ?_
  refine Zw rfl (q_field fa261_2 rfl) ?_
  refine Zw rfl (q_elfo (s := o3) one82 rfl hz90 rfl) ?_
  refine Zw rfl (q_move rfl) ?_
  refine Zw rfl (q_nilCheck rfl) ?_
  refine Zw rfl (q_field fa261_4 rfl) ?_
  refine Zw rfl (q_elfo (s := o3) one82 rfl hz90 rfl) ?_
  refine VD.one rfl ?_
  refine VL.callF (clip_ct z90.base) rfl (by decide) ?_
  rintro s99 hs99
  refine VL.back (D' := [(22, z90.out.val), (21, ptr o3.b (o3.o + ((m).toNat) * Dat.sz Ck + 4)), (20, ptr o3.b (o3.o + ((m).toNat) * Dat.sz Ck + 0)), (17, z90.theirs.val), (16, ptr o3.b (o3.o + ((m).toNat) * Dat.sz Ck + 2)), (15, ptr o3.b (o3.o + ((m).toNat) * Dat.sz Ck + 0)), (12, z90.ours.val), (11, ptr o3.b (o3.o + ((m).toNat) * Dat.sz Ck + 1)), (10, ptr o3.b (o3.o + ((m).toNat) * Dat.sz Ck + 0))]) (by kernel_rfl) (Pend.cons rfl (q_elfo (s := o3) one82 rfl hz90 rfl) (Pend.cons rfl (q_field fa261_4 rfl) (Pend.cons rfl (q_nilCheck rfl) (Pend.cons rfl (q_elfo (s := o3) one82 rfl hz90 rfl) (Pend.cons rfl (q_field fa261_2 rfl) (Pend.cons rfl (q_nilCheck rfl) (Pend.cons rfl (q_elfo (s := o3) one82 rfl hz90 rfl) (Pend.cons rfl (q_field fa261_1 rfl) (Pend.cons rfl (q_nilCheck rfl) (Pend.nil)))))))))) ?_
  refine VD.one rfl ?_
  refine VL.callF (clip_ct z90.ours) rfl (by decide) ?_
  rintro s104 hs104
  refine VL.back (D' := [(22, z90.out.val), (21, ptr o3.b (o3.o + ((m).toNat) * Dat.sz Ck + 4)), (20, ptr o3.b (o3.o + ((m).toNat) * Dat.sz Ck + 0)), (17, z90.theirs.val), (16, ptr o3.b (o3.o + ((m).toNat) * Dat.sz Ck + 2)), (15, ptr o3.b (o3.o + ((m).toNat) * Dat.sz Ck + 0))]) (by kernel_rfl) (Pend.cons rfl (q_elfo (s := o3) one82 rfl hz90 rfl) (Pend.cons rfl (q_field fa261_4 rfl) (Pend.cons rfl (q_nilCheck rfl) (Pend.cons rfl (q_elfo (s := o3) one82 rfl hz90 rfl) (Pend.cons rfl (q_field fa261_2 rfl) (Pend.cons rfl (q_nilCheck rfl) (Pend.nil))))))) ?_
  refine VD.one rfl ?_
  refine VL.callF (clip_ct z90.theirs) rfl (by decide) ?_
  rintro s109 hs109
  refine VL.back (D' := [(22, z90.out.val), (21, ptr o3.b (o3.o + ((m).toNat) * Dat.sz Ck + 4)), (20, ptr o3.b (o3.o + ((m).toNat) * Dat.sz Ck + 0))]) (by kernel_rfl) (Pend.cons rfl (q_elfo (s := o3) one82 rfl hz90 rfl) (Pend.cons rfl (q_field fa261_4 rfl) (Pend.cons rfl (q_nilCheck rfl) (Pend.nil)))) ?_
  refine VD.one rfl ?_
  refine VL.callF (clip_ct z90.out) rfl (by decide) ?_
  rintro s114 hs114
  refine VL.back (D' := []) (by kernel_rfl) (Pend.nil) ?_
  refine Zw rfl (q_nilCheck rfl) ?_
  refine Zw rfl (q_field fa261_0 rfl) ?_
  refine VD.one rfl ?_
  refine VL.storeE (s := o3) (T := 261) (j := 0) (vc := [s99.val]) (⟨s99, z90.ours, z90.theirs, z90.clash, z90.out⟩ : Ck) (by decide) rfl rfl hz90 rfl sz82 rfl rfl (Nat.le_of_ble_eq_true rfl) rfl (fun w0 hw0 haw0 hcw0 hvw0 hbw0 how0 => ?_)
  rw [← hvw0]
  try rw [← hbw0]
  try rw [← how0]
  have hew0 : w0.l[(m).toNat]? = some (⟨s99, z90.ours, z90.theirs, z90.clash, z90.out⟩ : Ck) := by rw [hw0]; exact List.getElem?_set_self (List.getElem?_eq_some_iff.1 hz90).1
  refine VL.back (D' := []) (by kernel_rfl) (Pend.nil) ?_
  refine Zw rfl (q_nilCheck rfl) ?_
  refine Zw rfl (q_field fa261_1 rfl) ?_
  refine VD.one rfl ?_
  refine VL.storeE (s := w0) (T := 261) (j := 1) (vc := [s104.val]) (⟨s99, s104, z90.theirs, z90.clash, z90.out⟩ : Ck) (by decide) rfl rfl hew0 rfl sz82 rfl rfl (Nat.le_of_ble_eq_true rfl) rfl (fun w1 hw1 haw1 hcw1 hvw1 hbw1 how1 => ?_)
  rw [← hvw1]
  try rw [← hbw1]
  try rw [← how1]
  have hew1 : w1.l[(m).toNat]? = some (⟨s99, s104, z90.theirs, z90.clash, z90.out⟩ : Ck) := by rw [hw1]; exact List.getElem?_set_self (List.getElem?_eq_some_iff.1 hew0).1
  refine VL.back (D' := []) (by kernel_rfl) (Pend.nil) ?_
  refine Zw rfl (q_nilCheck rfl) ?_
  refine Zw rfl (q_field fa261_2 rfl) ?_
  refine VD.one rfl ?_
  refine VL.storeE (s := w1) (T := 261) (j := 2) (vc := [s109.val]) (⟨s99, s104, s109, z90.clash, z90.out⟩ : Ck) (by decide) rfl rfl hew1 rfl sz82 rfl rfl (Nat.le_of_ble_eq_true rfl) rfl (fun w2 hw2 haw2 hcw2 hvw2 hbw2 how2 => ?_)
  rw [← hvw2]
  try rw [← hbw2]
  try rw [← how2]
  have hew2 : w2.l[(m).toNat]? = some (⟨s99, s104, s109, z90.clash, z90.out⟩ : Ck) := by rw [hw2]; exact List.getElem?_set_self (List.getElem?_eq_some_iff.1 hew1).1
  refine VL.back (D' := []) (by kernel_rfl) (Pend.nil) ?_
  refine Zw rfl (q_nilCheck rfl) ?_
  refine Zw rfl (q_field fa261_4 rfl) ?_
  refine VD.one rfl ?_
  refine VL.storeE (s := w2) (T := 261) (j := 4) (vc := [s114.val]) (⟨s99, s104, s109, z90.clash, s114⟩ : Ck) (by decide) rfl rfl hew2 rfl sz82 rfl rfl (Nat.le_of_ble_eq_true rfl) rfl (fun w3 hw3 haw3 hcw3 hvw3 hbw3 how3 => ?_)
  rw [← hvw3]
  try rw [← hbw3]
  try rw [← how3]
  have hew3 : w3.l[(m).toNat]? = some (⟨s99, s104, s109, z90.clash, s114⟩ : Ck) := by rw [hw3]; exact List.getElem?_set_self (List.getElem?_eq_some_iff.1 hew2).1
  refine VL.back (D' := []) (by kernel_rfl) (Pend.nil) ?_
  refine VD.to (fun _ _ h => h) ?_
  have hw : w3.l = o3.l.set m.toNat ⟨s99, s104, s109, z90.clash, s114⟩ := by rw [hw3, hw2, hw1, hw0, List.set_set, List.set_set, List.set_set]
  refine Zr ?_
  refine Zu (q_add rfl rfl ⟨by omega, by omega⟩) ?_
  refine Zm ?_
  refine VL.any ((m + 1), w3) [0, 1, 2, 6, 7, 8, 9, 10, 11, 39, 40, 81, 82] (fun _ _ h => h) ?_ rfl (fun hp ⟨q4, q3, q2, q1, _, qm, qr⟩ => ⟨by rw [hw]; exact MA.set (l := o3.l) qm ⟨q1, q2, q3, q4⟩, qr⟩) (by (try dsimp only); exact EntO.out)
  try dsimp only
  exact ⟨⟨by omega, by rw [hw]; simp; omega, by rw [hw]; simp; omega, by rw [hw, map_set_pl hz90 (by simp [Ck.pl, hs99, hs104, hs109, hs114])]; exact hmap⟩, by rw [hw]; simp; omega⟩
 refine Zx ?_
 refine Zq ?_
 refine VC.shut o3 261 (fun _ q z hz => q.1 z hz) ?_
 refine Zr ?_
 refine Zm ?_
 refine Zu (q_nilCheck rfl) ?_
 refine Zu (q_field fa308_6 rfl) ?_
 refine Zu (q_fe one253 rfl rfl) ?_
 refine VL.callF (clipC_ct o3) rfl (by decide) ?_
 rintro s128 hs128
 refine Zy ?_
 exact VC.ret (fin2I (.inr rfl) rfl rfl rfl s128 rfl ((by rw [hs128]; exact hmap)) (fun _ _ => trivial))
end Go.Proofs.YtleokmhhloamaaaGreatDoor
end
