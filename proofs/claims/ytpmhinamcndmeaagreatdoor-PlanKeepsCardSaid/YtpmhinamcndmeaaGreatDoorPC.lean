/- Part of the proofs of: The laws on plans hold for every input: what is laid into a folder keeps what was changed, a clean folder takes any tree, and by force the index is the tree. -/
import Derived.Test.YtpmhinamcndmeaaGreatDoorPB
set_option linter.unusedVariables false
set_option linter.unusedSimpArgs false
set_option linter.unusedSectionVars false
section
set_option linter.unusedVariables false
namespace Go.Proofs.YtpmhinamcndmeaaGreatDoor
set_option maxHeartbeats 4000000
set_option maxRecDepth 100000
open Go.RowKit Go.V
open Go.S hiding Str
theorem insert50_ct (s v : Sv FilesFile) (i : Int) (hi : 0 ≤ i ∧ i ≤ (s.l.length : Int)) (hv : v.l ≠ []) (hb : s.l.length + v.l.length ≤ 4294967296) : Ct Tryz.prog 143 [s.val, i64 i, v.val] Mo.tt (Ow.star (s.own 50) (v.own 50)) (X := Sv FilesFile) (fun q => q.val) (fun q => q.l = s.l.take i.toNat ++ v.l ++ s.l.drop i.toNat) (fun _ => Mo.tt) (fun q => q.own 50) := by
 refine Ct.of Tryz.func143 rfl (by kernel_rfl) Tryz.ntmps143 (by simp) fun c => ?_
 have hvp : 0 < v.l.length := List.length_pos_iff.2 hv
 have hK : Dat.sz FilesFile = 3 := rfl
 refine Zq (Zr ?_)
 refine Za ?_
 refine Zl ?_
 refine Zq (Zr ?_)
 refine Zm ?_
 refine Zm ?_
 refine VL.fits (s := s) (e := 50) Fo.out fun hf => ?_
 refine VL.q (q_subv (s := s) Tryz.underlying23 gsz50 rfl rfl hi.1 hi.2 hf) (by decide) ?_
 refine Zl ?_
 refine Zq (Zr ?_)
 refine Zm ?_
 refine VL.q (q_ln (s := v) Tryz.underlying22 rfl) (by decide) ?_
 refine Za ?_
 refine Zl ?_
 refine Zq (Zq (Zr ?_))
 refine Zm ?_
 refine VL.q (q_eql rfl rfl) (by decide) ?_
 refine Zl ?_
 refine VC.cond_dec rfl (fun h16 => absurd h16 (by omega)) (fun h16 => ?_)
 refine Zk ?_
 refine Zq (Zr ?_)
 refine Zm ?_
 refine VL.q (q_ln (s := s) Tryz.underlying23 rfl) (by decide) ?_
 refine Za ?_
 refine Zl ?_
 refine Zq (Zq (Zr ?_))
 refine Zm ?_
 refine Zm ?_
 refine VL.q (q_eql rfl rfl) (by decide) ?_
 refine Zl ?_
 refine VC.cond_dec rfl (fun h22 => ?_) (fun h22 => ?_)
 ·
  refine Zq (Zr ?_)
  refine Zm ?_
  refine Zm ?_
  refine VL.shut v 50 (fun _ _ _ _ => trivial) ?_
  refine VL.app2 (s := s) (r := v) Tryz.underlying23 Tryz.underlying22 gapp50 (by decide) rfl Fo.out (ap1 hb) (ap2 hb (by decide)) (by decide) (fun q hq => ?_)
  refine Za ?_
  refine Zl ?_
  have e1 : i.toNat = s.l.length := by omega
  exact VC.ret (fin1 (.inr rfl) rfl rfl q rfl (by rw [hq, e1, List.take_length, List.drop_length, List.append_nil]) (fun _ _ => trivial) EntO.out)
 have hin : i < (s.l.length : Int) := by omega
 have hne : s.l ≠ [] := fun h => by rw [h] at hin; simp at hin; omega
 have hkq : (s.l.length : Int) + (v.l.length : Int) - i = ((s.l.length + v.l.length - i.toNat : Nat) : Int) := by omega
 have hLn : (s.l.take i.toNat ++ v.l ++ s.l.drop i.toNat).length = s.l.length + v.l.length := by simp only [List.length_append, List.length_take, List.length_drop]; omega
 have hfl : (s.l.take i.toNat ++ v.l ++ s.l.drop i.toNat).flatMap Dat.enc = (s.l.take i.toNat).flatMap Dat.enc ++ v.l.flatMap Dat.enc ++ (s.l.drop i.toNat).flatMap Dat.enc := by rw [List.flatMap_append, List.flatMap_append]
 have lA : ((s.l.take i.toNat).flatMap Dat.enc).length = i.toNat * 3 := by rw [enc_len, List.length_take, hK, Nat.min_eq_left (by omega)]
 have lV : (v.l.flatMap Dat.enc).length = v.l.length * 3 := by rw [enc_len, hK]
 have lS : ((s.l.drop i.toNat).flatMap Dat.enc).length = (s.l.length - i.toNat) * 3 := by rw [enc_len, List.length_drop, hK]
 refine Zk ?_
 refine Zq (Zq (Zr ?_))
 refine Zm ?_
 refine Zm ?_
 refine VL.q (q_add rfl rfl ⟨by omega, by omega⟩) (by decide) ?_
 refine Zm ?_
 refine VL.q (q_capV (a0 := s.a) (L := s.l.length) (C := s.c) Tryz.underlying23 rfl) (by decide) ?_
 refine VL.q (q_gtr rfl rfl) (by decide) ?_
 refine Zl ?_
 refine VC.cond_dec rfl (fun h31 => ?_) (fun h31 => ?_)
 ·
  refine VC.shut s 50 (fun _ _ _ _ => trivial) ?_
  refine VC.shut v 50 (fun _ _ _ _ => trivial) ?_
  refine Zq (Zr ?_)
  refine VL.factM (φ := s.a = some ⟨s.b, s.o, none⟩) (fun h m => (InM.out (X := s.ok) h m).2.2.1 hne) fun hsa => ?_
  refine VL.factM (φ := v.a = some ⟨v.b, v.o, none⟩) (fun h m => (InM.out (X := v.ok) h m).2.2.1 hv) fun hva => ?_
  refine Zm ?_
  refine Zm ?_
  refine VL.q (q_toV (a0 := s.a) (L := s.l.length) (C := s.c) (K := 3) Tryz.underlying23 gsz50 rfl rfl hi.1 (by omega)) (by decide) ?_
  refine Zm ?_
  refine Zm ?_
  refine VL.q (q_add rfl rfl ⟨by omega, by omega⟩) (by decide) ?_
  refine Zm ?_
  refine VL.q (q_sub rfl rfl ⟨by omega, by omega⟩) (by decide) ?_
  refine VL.setv 39 rfl (congrArg (Value.int .i64) hkq) ?_
  refine VL.appZg (s := s) (L := i.toNat) (kq := s.l.length + v.l.length - i.toNat) Tryz.underlying23 Tryz.underlying3 gapp50 (by decide) rfl hne (by omega) (by omega) (by omega) (by omega) (by decide) (by decide) fun g cs cp hcl hcp hcm hct => ?_
  rw [hK] at hcl hct
  rw [show i.toNat + (s.l.length + v.l.length - i.toNat) = s.l.length + v.l.length by omega] at hcp ⊢
  have hfit : ((s.l.take i.toNat).flatMap Dat.enc).length + (v.l.flatMap Dat.enc).length + ((s.l.drop i.toNat).flatMap Dat.enc).length ≤ cs.length := by
    rw [lA, lV, lS, hcl, ← Nat.add_mul, ← Nat.add_mul]; exact Nat.mul_le_mul_right _ (by omega)
  have hic := ins_cells1 (V := v.l.flatMap Dat.enc) (S := (s.l.drop i.toNat).flatMap Dat.enc) (by rw [lA]; exact hct) hfit
  rw [← hfl, lA, lV, lS] at hic
  refine Za ?_
  refine Zl ?_
  refine Zq (Zr ?_)
  refine Zm ?_
  refine Zm ?_
  refine VL.q (q_fromV (b := g) (o := 0) (L := s.l.length + v.l.length) (C := cp) (K := 3) Tryz.underlying23 gsz50 rfl rfl hi.1 (by omega) hcp (by omega) rfl) (by decide) ?_
  refine Zm ?_
  refine VL.setv 44 rfl (show v.val = .slice (some ⟨v.b, v.o + 0 * Dat.sz FilesFile, none⟩) v.l.length v.c by unfold Sv.val; rw [hva, Nat.zero_mul]; rfl) ?_
  refine VL.copyB (src := v.l.flatMap Dat.enc) Tryz.underlying23 gsz50 UpdB.out rfl (by rw [lV]; congr 1; exact (Nat.min_eq_left (by omega)).symm) (ok_src0 (r := v) (by decide) hv) (enc_one1 v.l) (by rw [lV, Nat.zero_add, hcl, ← Nat.add_mul]; exact Nat.mul_le_mul_right _ (by omega)) (by decide) ?_
  rw [Nat.zero_add, lV]
  refine Zl ?_
  refine Zq ?_
  refine VC.draw [(0, true), (1, true), (2, true), (3, true), (4, true), (5, true), (6, true), (7, true), (8, false)] mixed (by kernel_rfl) (by kernel_rfl) (by kernel_rfl) ?_
  refine VD.q rfl (q_move rfl) (by decide) ?_
  refine VD.q rfl (q_move rfl) (by decide) ?_
  refine VD.q rfl (q_move rfl) (by decide) ?_
  refine VD.q rfl (q_add rfl rfl ⟨by omega, by omega⟩) (by decide) ?_
  refine VD.q rfl (q_fromV (b := g) (o := 0) (L := s.l.length + v.l.length) (C := cp) (K := 3) Tryz.underlying23 gsz50 rfl rfl (by omega) (by omega) hcp (by omega) rfl) (by decide) ?_
  refine VD.q rfl (q_move rfl) (by decide) ?_
  refine VD.q rfl (q_move rfl) (by decide) ?_
  refine VD.q rfl (q_fromV (b := s.b) (o := s.o) (L := s.l.length) (C := s.c) (K := 3) Tryz.underlying23 gsz50 (show some s.val = _ by unfold Sv.val; rw [hsa]) rfl hi.1 (by omega) hf (by omega) rfl) (by decide) ?_
  refine VD.one rfl ?_
  rw [show (i + (v.l.length : Int)).toNat = i.toNat + v.l.length by omega]
  refine VL.copyB (src := (s.l.drop i.toNat).flatMap Dat.enc) Tryz.underlying23 gsz50 UpdB.out rfl (by rw [lS]; congr 1; exact (Nat.min_eq_left (by omega)).symm) (ok_srcK (r := s) (by decide) hne i.toNat) (enc_one1 _) (by rw [lS, Nat.zero_add, hic.1, hcl, ← Nat.add_mul]; exact Nat.mul_le_mul_right _ (by omega)) (by decide) ?_
  rw [Nat.zero_add, lS, Nat.add_mul]
  refine VL.back (D' := []) (by kernel_rfl) Pend.nil ?_
  refine VD.to (fun _ _ h => h) ?_
  refine Zq (Zr ?_)
  refine Zm ?_
  refine Za ?_
  refine Zl ?_
  have ho := fun F => own_blk (F := F) (e := 50) (b := g) (l' := s.l.take i.toNat ++ v.l ++ s.l.drop i.toNat) (hic.2.1.trans hcl) (by rw [enc_len] at hic; exact hic.2.2) hLn hcp hcm
  exact VC.ret (fin1 (.inr rfl) rfl rfl ⟨some ⟨g, 0, none⟩, cp, _⟩ (ho Ow.emp).1 rfl (fun _ _ => trivial) (ho _).2)
 refine Zk ?_
 refine Zq (Zr ?_)
 refine VL.open (s := s) (e := 50) Fo.out (by omega) fun b cs hsa hcl hct _ hcm => ?_
 rw [hK] at hcl hct
 have hctA : cs.take ((s.l.take i.toNat).flatMap Dat.enc).length = (s.l.take i.toNat).flatMap Dat.enc := by
   rw [lA]
   have : cs.take (i.toNat * 3) = (cs.take (s.l.length * 3)).take (i.toNat * 3) := by rw [List.take_take, Nat.min_eq_left (Nat.mul_le_mul_right _ (by omega))]
   rw [this, hct]
   exact flatMap_take s.l i.toNat
 have hfit : ((s.l.take i.toNat).flatMap Dat.enc).length + (v.l.flatMap Dat.enc).length + ((s.l.drop i.toNat).flatMap Dat.enc).length ≤ cs.length := by
   rw [lA, lV, lS, hcl, ← Nat.add_mul, ← Nat.add_mul]; exact Nat.mul_le_mul_right _ (by omega)
 have hic := ins_cells2 (V := v.l.flatMap Dat.enc) (S := (s.l.drop i.toNat).flatMap Dat.enc) hctA hfit
 rw [← hfl, lA, lV, lS] at hic
 refine Zm ?_
 refine Zm ?_
 refine Zm ?_
 refine VL.q (q_add rfl rfl ⟨by omega, by omega⟩) (by decide) ?_
 refine VL.q (q_toV (a0 := s.a) (L := s.l.length) (C := s.c) (K := 3) Tryz.underlying23 gsz50 rfl rfl (by omega) (by omega)) (by decide) ?_
 rw [show ((s.l.length : Int) + (v.l.length : Int)).toNat = s.l.length + v.l.length by omega, hsa]
 refine Za ?_
 refine Zl ?_
 refine Zq (Zq (Zr ?_))
 refine Zm ?_
 refine Zm ?_
 refine Zm ?_
 refine Zm ?_
 refine VL.q (q_add rfl rfl ⟨by omega, by omega⟩) (by decide) ?_
 refine VL.q (q_fromV (b := b) (o := 0) (L := s.l.length + v.l.length) (C := s.c) (K := 3) Tryz.underlying23 gsz50 rfl rfl (by omega) (by omega) (by omega) (by omega) rfl) (by decide) ?_
 refine VL.q (q_overlaps (tS := 22) (tR := 4) (s := v) (b := b) Tryz.func222 rfl rfl (by kernel_rfl) (by kernel_rfl) Tryz.underlying22 gsz50 rfl UpdB.out (fun h => by rw [h] at hcl; simp at hcl; omega) hv) (by decide) ?_
 refine VL.q (q_not rfl) (by decide) ?_
 refine Zl ?_
 refine VC.cond_t rfl ?_
 refine VC.shut v 50 (fun _ _ _ _ => trivial) ?_
 refine Zq ?_
 refine VC.draw [(0, true), (1, true), (2, true), (3, true), (4, true), (5, true), (6, true), (7, true), (8, false)] mixed (by kernel_rfl) (by kernel_rfl) (by kernel_rfl) ?_
 refine VD.q rfl (q_move rfl) (by decide) ?_
 refine VD.q rfl (q_move rfl) (by decide) ?_
 refine VD.q rfl (q_move rfl) (by decide) ?_
 refine VD.q rfl (q_add rfl rfl ⟨by omega, by omega⟩) (by decide) ?_
 refine VD.q rfl (q_fromV (b := b) (o := 0) (L := s.l.length + v.l.length) (C := s.c) (K := 3) Tryz.underlying23 gsz50 rfl rfl (by omega) (by omega) (by omega) (by omega) rfl) (by decide) ?_
 refine VD.q rfl (q_move rfl) (by decide) ?_
 refine VD.q rfl (q_move rfl) (by decide) ?_
 refine VD.q rfl (q_fromV (b := b) (o := 0) (L := s.l.length + v.l.length) (C := s.c) (K := 3) Tryz.underlying23 gsz50 rfl rfl hi.1 (by omega) (by omega) (by omega) rfl) (by decide) ?_
 refine VD.one rfl ?_
 rw [show (i + (v.l.length : Int)).toNat = i.toNat + v.l.length by omega, Nat.zero_add, Nat.zero_add]
 refine VL.copyB (src := (s.l.drop i.toNat).flatMap Dat.enc) Tryz.underlying23 gsz50 UpdB.out rfl (by rw [lS]; congr 1; simp only [Nat.min_def]; split <;> omega) (blk_src (n := s.l.length) hct rfl) (enc_one1 _) (by rw [lS, hcl, ← Nat.add_mul]; exact Nat.mul_le_mul_right _ (by omega)) (by decide) ?_
 rw [lS, Nat.add_mul]
 refine VL.back (D' := []) (by kernel_rfl) Pend.nil ?_
 refine VD.to (fun _ _ h => h) ?_
 refine Zq (Zr ?_)
 refine Zm ?_
 refine Zm ?_
 refine VL.q (q_fromV (b := b) (o := 0) (L := s.l.length + v.l.length) (C := s.c) (K := 3) Tryz.underlying23 gsz50 rfl rfl hi.1 (by omega) (by omega) (by omega) rfl) (by decide) ?_
 refine Zm ?_
 refine VL.factM (φ := v.a = some ⟨v.b, v.o, none⟩) (fun h m => (InM.out (X := v.ok) h m).2.2.1 hv) fun hva => ?_
 refine VL.setv 81 rfl (show v.val = .slice (some ⟨v.b, v.o + 0 * Dat.sz FilesFile, none⟩) v.l.length v.c by unfold Sv.val; rw [hva, Nat.zero_mul]; rfl) ?_
 rw [Nat.zero_add]
 refine VL.copyB (src := v.l.flatMap Dat.enc) Tryz.underlying23 gsz50 UpdB.out rfl (by rw [lV]; congr 1; exact (Nat.min_eq_left (by omega)).symm) (ok_src0 (r := v) (by decide) hv) (enc_one1 v.l) (by rw [lV, hic.1, hcl, ← Nat.add_mul]; exact Nat.mul_le_mul_right _ (by omega)) (by decide) ?_
 rw [lV]
 refine Zl ?_
 refine Zq (Zr ?_)
 refine Zm ?_
 refine Za ?_
 refine Zl ?_
 have ho := fun F => own_blk (F := F) (e := 50) (b := b) (l' := s.l.take i.toNat ++ v.l ++ s.l.drop i.toNat) (hic.2.1.trans hcl) (by rw [enc_len] at hic; exact hic.2.2) hLn (by omega) hcm
 exact VC.ret (fin1 (.inr rfl) rfl rfl ⟨some ⟨b, 0, none⟩, s.c, _⟩ (ho Ow.emp).1 rfl (fun _ _ => trivial) (ho _).2)
theorem files_Row_Put_ct (r_0 : Sv FilesFile) (f_1 : FilesFile) {r : List FilesFile} (hS : Sh.files_Row_Put r_0.l f_1 = some r) :
 Ct Tryz.prog 62 [r_0.val, .agg #[str f_1.path, i64 f_1.mode, str f_1.data]] r_0.ok (Ow.emp) (X := Sv FilesFile) (fun x => x.val) (fun x => r = x.l) (fun x => x.ok) (fun x => Ow.emp) := by
 refine Ct.of Tryz.func62 rfl (by kernel_rfl) Tryz.ntmps62 (by simp) fun c => ?_
 unfold Sh.files_Row_Put at hS
 refine Zq (Zr ?_)
 refine VL.box (cs := [str f_1.path, i64 f_1.mode, str f_1.data]) rfl rfl (by decide) fun b3_1 => ?_
 refine Za ?_
 refine Zl ?_
 refine Zq (Zr ?_)
 refine Zm ?_
 obtain ⟨y9_2, ey9_2, hS⟩ := bd_s hS
 refine VL.callO (slices_Clone_files_Row_files_File_ct r_0 ey9_2) rfl (by decide) ?_
 rintro q9_2_0 rfl
 try dsimp only
 refine Za ?_
 refine Zl ?_
 refine Zq (Zr ?_)
 refine Zm ?_
 refine VL.q (q_field gfa50_0 rfl) (by decide) ?_
 refine VL.q (q_fe gone9 rfl rfl) (by decide) ?_
 obtain ⟨y14_3, ey14_3, hS⟩ := bd_s hS
 refine VL.q (q_call (files_Row_find_ct r_0 f_1.path ey14_3) rfl (fun _ _ => rfl)) (by decide) ?_
 refine Zm ?_
 refine VL.q (q_extract rfl rfl) (by decide) ?_
 refine VL.q (q_extract rfl rfl) (by decide) ?_
 refine Za ?_
 refine Za ?_
 refine Zl ?_
 refine VC.keep [3, 5, 6, 7] rfl ?_
 refine Zq (Zq (Zr ?_))
 refine Zm ?_
 refine Zl ?_
 refine VC.cond rfl (fun h17 => ?_) (fun h17 => ?_)
 ·
  replace hS := it_t h17 hS
  refine Zq (Zr ?_)
  refine Zm ?_
  refine Zm ?_
  refine VL.q (q_fes gagg50 rfl rfl) (by decide) ?_
  obtain ⟨z21_4, nz21_4, hz21_4, hS⟩ := at_s hS
  refine VL.q (q_ixo (s := q9_2_0) Tryz.underlying23 gsz50 rfl rfl nz21_4 (lt_of_get nz21_4 hz21_4)) (by decide) ?_
  refine VL.storeE (s := q9_2_0) (T := 50) (j := 0) (vc := [str f_1.path, i64 f_1.mode, str f_1.data]) (⟨f_1.path, f_1.mode, f_1.data⟩ : FilesFile) (by decide) rfl rfl hz21_4 rfl gsz50 rfl rfl (Nat.le_of_ble_eq_true rfl) rfl (fun w5 hw5 haw5 hcw5 hvw5 hbw5 how5 => ?_)
  rw [← hvw5]
  replace hS := lt_to hw5 hS
  refine Zl ?_
  refine Zq (Zr ?_)
  refine Zm ?_
  refine VL.shut w5 50 (fun _ _ _ _ => trivial) ?_
  obtain ⟨y23_7, ey23_7, hS⟩ := bd_s hS
  refine VL.callF (slices_Clip_files_Row_files_File_ct w5 ey23_7) rfl (by decide) ?_
  rintro q23_7_0 rfl
  try dsimp only
  refine Za ?_
  refine Zl ?_
  refine VC.keep [4] rfl ?_
  cases hS
  exact VC.ret (fin1 (.inr rfl) rfl rfl q23_7_0 rfl rfl (by (try dsimp only); exact InM.out) (fun _ _ => trivial))
 replace hS := it_b h17 hS
 refine Zk ?_
 refine Zq (Zr ?_)
 refine Zm ?_
 refine Zm ?_
 refine VL.q (q_fes gagg50 rfl rfl) (by decide) ?_
 refine VL.litO (α := FilesFile) (xs := [.tmp 26]) (vs := [.agg #[str f_1.path, i64 f_1.mode, str f_1.data]]) [⟨f_1.path, f_1.mode, f_1.data⟩] Tryz.underlying22 glit50 (by decide) rfl rfl rfl rfl (by decide) (by decide) (fun s27_8 hs27_8 => ?_) (by decide)
 replace hS := lt_to hs27_8 hS
 obtain ⟨b28, hS⟩ := gd_s hS
 refine VL.callO (insert50_ct q9_2_0 s27_8 y14_3.1 b28.1 b28.2.1 b28.2.2) rfl (by decide) ?_
 intro s28_10 hs28_10
 replace hS := lt_to hs28_10 hS
 refine VL.shut s28_10 50 (fun _ _ _ _ => trivial) ?_
 obtain ⟨y29_12, ey29_12, hS⟩ := bd_s hS
 refine VL.callF (slices_Clip_files_Row_files_File_ct s28_10 ey29_12) rfl (by decide) ?_
 rintro q29_12_0 rfl
 try dsimp only
 refine Za ?_
 refine Zl ?_
 refine VC.keep [4] rfl ?_
 cases hS
 exact VC.ret (fin1 (.inr rfl) rfl rfl q29_12_0 rfl rfl (by (try dsimp only); exact InM.out) (fun _ _ => trivial))
theorem plan_Apply_ct (head_0 : Sv FilesFile) (r_1 : TmergeResult) (ix_2 : Sv IndexEntry) (work_3 : Sv FilesFile) {r : List IndexEntry × List FilesFile × Err} (hS : Sh.plan_Apply head_0.l r_1.pl ix_2.l work_3.l = some r) :
 Ct Tryz.prog 14 [head_0.val, .agg #[r_1.files.val, r_1.entries.val, r_1.conflicts.val], ix_2.val, work_3.val] (head_0.ok.and (r_1.files.ok.and (r_1.entries.ok.and (r_1.conflicts.ok.and (ix_2.ok.and work_3.ok))))) (Ow.emp) (X := Sv IndexEntry × Sv FilesFile × Er) (fun x => .tuple #[x.1.val, x.2.1.val, x.2.2.val]) (fun x => r = (x.1.l, x.2.1.l, x.2.2.pl)) (fun x => (x.1.ok.and (x.2.1.ok.and x.2.2.ok))) (fun x => Ow.emp) := by
 refine Ct.of Tryz.func14 rfl (by kernel_rfl) Tryz.ntmps14 (by simp) fun c => ?_
 unfold Sh.plan_Apply at hS
 refine Zq (Zr ?_)
 refine VL.box (cs := [r_1.files.val, r_1.entries.val, r_1.conflicts.val]) rfl rfl (by decide) fun b5_1 => ?_
 refine Za ?_
 refine Za ?_
 refine Za ?_
 refine Zl ?_
 refine Zq (Zq (Zr ?_))
 refine Zm ?_
 refine VL.q (q_fes gagg34 rfl rfl) (by decide) ?_
 refine Zm ?_
 refine Zm ?_
 obtain ⟨y22_2, ey22_2, hS⟩ := bd_s hS
 refine VL.callF (plan_Lost_ct head_0 r_1 ix_2 work_3 ey22_2) rfl (by decide) ?_
 rintro q22_2_0 rfl
 try dsimp only
 refine Za ?_
 refine Zl ?_
 refine VC.keep [0, 2, 3, 5, 11] rfl ?_
 refine Zq (Zr ?_)
 refine Zm ?_
 refine VL.q (q_ln (s := q22_2_0) Tryz.underlying32 rfl) (by decide) ?_
 refine VL.q (q_gtr rfl rfl) (by decide) ?_
 refine Zl ?_
 refine VC.cond_dec rfl (fun h25 => ?_) (fun h25 => ?_)
 ·
  replace hS := it_t h25 hS
  refine Zq (Zr ?_)
  refine Zm ?_
  obtain ⟨y27_3, ey27_3, hS⟩ := bd_s hS
  refine VL.callO (slices_Clone_index_Entry_index_Entry_ct ix_2 ey27_3) rfl (by decide) ?_
  rintro q27_3_0 rfl
  try dsimp only
  refine VL.shut q27_3_0 83 (fun _ _ _ _ => trivial) ?_
  obtain ⟨y28_4, ey28_4, hS⟩ := bd_s hS
  refine VL.callF (slices_Clip_index_Entry_index_Entry_ct q27_3_0 ey28_4) rfl (by decide) ?_
  rintro q28_4_0 rfl
  try dsimp only
  refine Zm ?_
  obtain ⟨y30_5, ey30_5, hS⟩ := bd_s hS
  refine VL.callO (slices_Clone_files_Row_files_File_ct work_3 ey30_5) rfl (by decide) ?_
  rintro q30_5_0 rfl
  try dsimp only
  refine VL.shut q30_5_0 50 (fun _ _ _ _ => trivial) ?_
  obtain ⟨y31_6, ey31_6, hS⟩ := bd_s hS
  refine VL.callF (slices_Clip_files_Row_files_File_ct q30_5_0 ey31_6) rfl (by decide) ?_
  rintro q31_6_0 rfl
  try dsimp only
  refine Zm ?_
  refine VL.q (q_ln (s := q22_2_0) Tryz.underlying32 rfl) (by decide) ?_
  refine VL.q (q_mkif Tryz.underlying105 (fun _ h => by cases h) rfl) (by decide) ?_
  refine VL.q (q_build (vs := [(0, str [112, 97, 116, 104]), (1, i64 (q22_2_0.l.length : Int)), (2, (Er.no 8).val)]) (cs := #[str [112, 97, 116, 104], i64 (q22_2_0.l.length : Int), (Er.no 8).val]) rfl (by kernel_rfl)) (by decide) ?_
  refine VL.box (cs := [str [112, 97, 116, 104], i64 (q22_2_0.l.length : Int), (Er.no 8).val]) rfl rfl (by decide) fun b36_7 => ?_
  refine VL.shutB b36_7 ?_
  refine VL.q (q_mkif Tryz.underlying104 (fun _ h => by cases h) rfl) (by decide) ?_
  refine Za ?_
  refine Za ?_
  refine Za ?_
  refine Zl ?_
  refine VC.keep [8, 9, 10] rfl ?_
  cases hS
  exact VC.ret (fin3 (.inr rfl) rfl rfl rfl rfl (q28_4_0, q31_6_0, (Er.fault b36_7 [112, 97, 116, 104] (q22_2_0.l.length : Int) (Er.no 8))) rfl rfl (by (try dsimp only); exact InM.out) (fun _ _ => trivial))
 replace hS := it_f h25 hS
 refine Zk ?_
 refine Zq (Zr ?_)
 refine Zm ?_
 refine VL.q (q_fes gagg34 rfl rfl) (by decide) ?_
 obtain ⟨y40_8, ey40_8, hS⟩ := bd_s hS
 refine VL.callO (plan_touched_ct head_0 r_1 ey40_8) rfl (by decide) ?_
 rintro q40_8_0 rfl
 try dsimp only
 refine Za ?_
 refine Zl ?_
 refine VC.keep [2, 3, 5, 12] rfl ?_
 refine Zq (Zr ?_)
 refine Zm ?_
 obtain ⟨y42_9, ey42_9, hS⟩ := bd_s hS
 refine VL.callO (slices_Clone_index_Entry_index_Entry_ct ix_2 ey42_9) rfl (by decide) ?_
 rintro q42_9_0 rfl
 try dsimp only
 refine Zm ?_
 obtain ⟨y44_10, ey44_10, hS⟩ := bd_s hS
 refine VL.callO (slices_Clone_files_Row_files_File_ct work_3 ey44_10) rfl (by decide) ?_
 rintro q44_10_0 rfl
 try dsimp only
 refine Za ?_
 refine Za ?_
 refine Zl ?_
 refine Zq (Zq (Zr ?_))
 refine Zm ?_
 refine VL.q (q_ln (s := q40_8_0) Tryz.underlying32 rfl) (by decide) ?_
 refine Zm ?_
 refine Zl ?_
 refine Zb ?_
 refine VC.shut q42_9_0 83 (fun _ _ _ _ => trivial) ?_
 refine VC.shut q44_10_0 50 (fun _ _ _ _ => trivial) ?_
 refine VC.iter (S := Sv IndexEntry × Sv FilesFile × Int) (fun sg => (sg.1.l, sg.2.1.l, sg.2.2)) (fun sg => [(2, sg.1.val), (3, sg.2.1.val), (5, ptr b5_1 0), (12, q40_8_0.val), (45, q40_8_0.val), (46, i64 (q40_8_0.l.length : Int)), (47, i64 sg.2.2)]) (fun sg => (sg.1.ok.and sg.2.1.ok)) (fun sg => Ow.star (Blk b5_1 [r_1.files.val, r_1.entries.val, r_1.conflicts.val] 34) (Ow.star (Sv.own q40_8_0 9) (Ow.emp))) (q42_9_0, q44_10_0, 0) [2, 3, 5, 12, 45, 46, 47] hS rfl ?_
 clear hS
 rintro ⟨ix2_11, work3_12, x47_13⟩ m1 y1 hS hK1
 show VC _ _ _ _ _ [(2, ix2_11.val), (3, work3_12.val), (5, ptr b5_1 0), (12, q40_8_0.val), (45, q40_8_0.val), (46, i64 (q40_8_0.l.length : Int)), (47, i64 x47_13)] (Mo.and (ix2_11.ok.and work3_12.ok) _) (Ow.star (Blk b5_1 [r_1.files.val, r_1.entries.val, r_1.conflicts.val] 34) (Ow.star (Sv.own q40_8_0 9) (Ow.emp)))
 refine Zq (Zr ?_)
 refine VL.q (q_lss rfl rfl) (by decide) ?_
 refine Zl ?_
 refine Zq ?_
 refine VC.cond_dec rfl (fun h48 => ?_) (fun h48 => ?_)
 ·
  replace hS := it_t h48 hS
  refine Zk ?_
  refine Zq (Zb (Zq (Zr ?_)))
  obtain ⟨z49_14, nz49_14, hz49_14, hS⟩ := at_s hS
  refine VL.q (q_ixo (s := q40_8_0) Tryz.underlying32 gsz9 rfl rfl nz49_14 (lt_of_get nz49_14 hz49_14)) (by decide) ?_
  refine VL.q (q_elo (s := q40_8_0) 9 gone9 rfl hz49_14 rfl) (by decide) ?_
  refine Za ?_
  refine Zl ?_
  refine Zr ?_
  refine Zm ?_
  refine Zm ?_
  obtain ⟨y53_15, ey53_15, hS⟩ := bd_s hS
  refine VL.callF (index_Drop_ct ix2_11 z49_14 ey53_15) rfl (by decide) ?_
  rintro q53_15_0 rfl
  try dsimp only
  refine Zm ?_
  refine Zm ?_
  obtain ⟨y56_16, ey56_16, hS⟩ := bd_s hS
  refine VL.callF (files_Row_Cut_ct work3_12 z49_14 ey56_16) rfl (by decide) ?_
  rintro q56_16_0 rfl
  try dsimp only
  refine Za ?_
  refine Za ?_
  refine Zl ?_
  refine VC.keep [2, 3, 5, 12, 45, 46, 47] rfl ?_
  refine Zr ?_
  obtain ⟨b57, hS⟩ := gd_s hS
  refine VL.q (q_add rfl rfl b57) (by decide) ?_
  refine Zm ?_
  refine VL.rnd (q53_15_0, q56_16_0, (x47_13 + 1)) [2, 3, 5, 12, 45, 46, 47] (fun _ _ h => h) (go2 hS hK1) rfl
 replace hS := it_f h48 hS
 replace hS := up2 hS hK1
 refine Zx ?_
 refine Zq (Zq (Zr ?_))
 refine Zm ?_
 refine VL.q (q_ln (s := q40_8_0) Tryz.underlying32 rfl) (by decide) ?_
 refine Zm ?_
 refine Zl ?_
 refine Zb ?_
 refine VC.iter (S := Sv IndexEntry × Sv FilesFile × Int) (fun sg => (sg.1.l, sg.2.1.l, sg.2.2)) (fun sg => [(2, sg.1.val), (3, sg.2.1.val), (5, ptr b5_1 0), (58, q40_8_0.val), (59, i64 (q40_8_0.l.length : Int)), (60, i64 sg.2.2)]) (fun sg => (sg.1.ok.and sg.2.1.ok)) (fun sg => Ow.star (Blk b5_1 [r_1.files.val, r_1.entries.val, r_1.conflicts.val] 34) (Ow.star (Sv.own q40_8_0 9) (Ow.emp))) (ix2_11, work3_12, 0) [2, 3, 5, 58, 59, 60] hS rfl ?_
 clear hS
 rintro ⟨ix2_17, work3_18, x60_19⟩ m1 y1 hS hK1
 show VC _ _ _ _ _ [(2, ix2_17.val), (3, work3_18.val), (5, ptr b5_1 0), (58, q40_8_0.val), (59, i64 (q40_8_0.l.length : Int)), (60, i64 x60_19)] (Mo.and (ix2_17.ok.and work3_18.ok) _) (Ow.star (Blk b5_1 [r_1.files.val, r_1.entries.val, r_1.conflicts.val] 34) (Ow.star (Sv.own q40_8_0 9) (Ow.emp)))
 refine Zq (Zr ?_)
 refine VL.q (q_lss rfl rfl) (by decide) ?_
 refine Zl ?_
 refine Zq ?_
 refine VC.cond_dec rfl (fun h61 => ?_) (fun h61 => ?_)
 ·
  replace hS := it_t h61 hS
  refine Zk ?_
  refine Zq (Zb (Zq (Zr ?_)))
  obtain ⟨z62_20, nz62_20, hz62_20, hS⟩ := at_s hS
  refine VL.q (q_ixo (s := q40_8_0) Tryz.underlying32 gsz9 rfl rfl nz62_20 (lt_of_get nz62_20 hz62_20)) (by decide) ?_
  refine VL.q (q_elo (s := q40_8_0) 9 gone9 rfl hz62_20 rfl) (by decide) ?_
  refine Za ?_
  refine Zl ?_
  refine Zq (Zr ?_)
  refine VL.q (q_fes gagg34 rfl rfl) (by decide) ?_
  refine Zm ?_
  refine Zm ?_
  obtain ⟨y67_21, ey67_21, hS⟩ := bd_s hS
  refine VL.callF (plan_lay_ct r_1 ix2_17 z62_20 ey67_21) rfl (by decide) ?_
  rintro q67_21_0 rfl
  try dsimp only
  refine Za ?_
  refine Zl ?_
  refine VC.keep [2, 3, 5, 58, 59, 60, 16] rfl ?_
  refine Zq (Zr ?_)
  refine VL.q (q_field gfa34_0 rfl) (by decide) ?_
  refine VL.q (q_fe gone23 rfl rfl) (by decide) ?_
  refine Zm ?_
  obtain ⟨y71_22, ey71_22, hS⟩ := bd_s hS
  refine VL.q (q_call (plan_of_ct r_1.files z62_20 ey71_22) rfl (fun _ _ => rfl)) (by decide) ?_
  refine VL.alloc (cs := [str [], i64 0, str [], .bool false]) (by kernel_rfl) (by decide) fun b17_23 => ?_
  refine VL.store (vc := [str y71_22.file_path, i64 y71_22.file_mode, str y71_22.file_data, .bool y71_22.is]) (cs' := [str y71_22.file_path, i64 y71_22.file_mode, str y71_22.file_data, .bool y71_22.is]) rfl rfl rfl gsz116 rfl rfl (Nat.le_of_ble_eq_true rfl) rfl ?_
  refine Zl ?_
  refine Zq (Zr ?_)
  refine VL.q (q_field gfa116_1 rfl) (by decide) ?_
  refine VL.q (q_fe gone4 rfl rfl) (by decide) ?_
  refine Zl ?_
  refine VC.cond rfl (fun h73 => ?_) (fun h73 => ?_)
  ·
   replace hS := it_t h73 hS
   refine Zr ?_
   refine Zm ?_
   refine VL.q (q_field gfa116_0 rfl) (by decide) ?_
   refine VL.q (q_fep (j := 0) (n := 3) gagg50 rfl rfl rfl) (by decide) ?_
   obtain ⟨y77_24, ey77_24, hS⟩ := bd_s hS
   refine VL.callF (files_Row_Put_ct work3_18 (⟨y71_22.file_path, y71_22.file_mode, y71_22.file_data⟩ : FilesFile) ey77_24) rfl (by decide) ?_
   rintro q77_24_0 rfl
   try dsimp only
   refine Za ?_
   refine Zl ?_
   refine VC.keep [2, 3, 5, 58, 59, 60] rfl ?_
   refine Zr ?_
   obtain ⟨b78, hS⟩ := gd_s hS
   refine VL.q (q_add rfl rfl b78) (by decide) ?_
   refine Zm ?_
   refine VL.rnd (q67_21_0, q77_24_0, (x60_19 + 1)) [2, 3, 5, 58, 59, 60] (fun _ _ h => h) (go2 hS hK1) rfl
  replace hS := it_b h73 hS
  refine Zk ?_
  refine VC.keep [2, 3, 5, 58, 59, 60] rfl ?_
  refine Zr ?_
  obtain ⟨b78, hS⟩ := gd_s hS
  refine VL.q (q_add rfl rfl b78) (by decide) ?_
  refine Zm ?_
  refine VL.rnd (q67_21_0, work3_18, (x60_19 + 1)) [2, 3, 5, 58, 59, 60] (fun _ _ h => h) (go2 hS hK1) rfl
 replace hS := it_f h61 hS
 replace hS := up2 hS hK1
 refine Zx ?_
 refine Zq (Zr ?_)
 refine Zm ?_
 obtain ⟨y80_25, ey80_25, hS⟩ := bd_s hS
 refine VL.callF (slices_Clip_index_Entry_index_Entry_ct ix2_17 ey80_25) rfl (by decide) ?_
 rintro q80_25_0 rfl
 try dsimp only
 refine Zm ?_
 obtain ⟨y82_26, ey82_26, hS⟩ := bd_s hS
 refine VL.callF (slices_Clip_files_Row_files_File_ct work3_18 ey82_26) rfl (by decide) ?_
 rintro q82_26_0 rfl
 try dsimp only
 refine Za ?_
 refine Za ?_
 refine Za ?_
 refine Zl ?_
 refine VC.keep [8, 9, 10] rfl ?_
 cases hS
 exact VC.ret (fin3 (.inr rfl) rfl rfl rfl rfl (q80_25_0, q82_26_0, .nil) rfl rfl (by (try dsimp only); exact InM.out) (fun _ _ => trivial))
theorem plan_known_1_ct (e_0 : IndexEntry) (a_1_b : Nat) (a_1 : Str) {r : Bool} (hS : Sh.plan_known_1 e_0 a_1 = some r) :
 Ct Tryz.prog 145 [.agg #[str e_0.path, i64 e_0.stage, i64 e_0.mode, str e_0.data, i64 e_0.time, i64 e_0.size], ptr a_1_b 0] (Cells a_1_b 0 [str a_1]) (Ow.emp) (X := Unit) (fun _ => .bool r) (fun _ => True) (fun _ => Mo.tt) (fun _ => Ow.emp) := by
 refine Ct.of Tryz.func145 rfl (by kernel_rfl) Tryz.ntmps145 (by simp) fun c => ?_
 unfold Sh.plan_known_1 at hS
 refine Zq (Zr ?_)
 refine VL.box (cs := [str e_0.path, i64 e_0.stage, i64 e_0.mode, str e_0.data, i64 e_0.time, i64 e_0.size]) rfl rfl (by decide) fun b2_1 => ?_
 refine Za ?_
 refine Zl ?_
 refine Zq (Zr ?_)
 refine VL.q (q_field gfa83_0 rfl) (by decide) ?_
 refine VL.q (q_fe gone9 rfl rfl) (by decide) ?_
 refine VL.q (q_fm gone9 rfl rfl) (by decide) ?_
 refine Zs ?_
 refine Za ?_
 refine Zl ?_
 cases hS
 exact Ze
theorem slices_IndexFunc_index_Entry_index_Entry_v3_ct (s_0 : Sv IndexEntry) (f_1_0_b : Nat) (f_1_0 : Str) {r : Int} (hS : Sh.slices_IndexFunc_index_Entry_index_Entry_v3 s_0.l f_1_0 = some r) :
 Ct Tryz.prog 217 [s_0.val, .func (.func 145) #[] #[ptr f_1_0_b 0]] (s_0.ok.and (Cells f_1_0_b 0 [str f_1_0])) (Ow.emp) (X := Unit) (fun _ => i64 r) (fun _ => True) (fun _ => Mo.tt) (fun _ => Ow.emp) := by
 refine Ct.of Tryz.func217 rfl (by kernel_rfl) Tryz.ntmps217 (by simp) fun c => ?_
 unfold Sh.slices_IndexFunc_index_Entry_index_Entry_v3 at hS
 refine Zq (Zr ?_)
 refine Za ?_
 refine Zl ?_
 refine Zq (Zq (Zr ?_))
 refine Zm ?_
 refine VL.q (q_ln (s := s_0) Tryz.underlying29 rfl) (by decide) ?_
 refine Zm ?_
 refine Zl ?_
 refine Zb ?_
 refine VC.iter (S := Int) (fun (x8_1 : Int) => x8_1) (fun (x8_1 : Int) => [(0, s_0.val), (1, .func (.func 145) #[] #[ptr f_1_0_b 0]), (7, i64 (s_0.l.length : Int)), (8, i64 x8_1)]) (fun (x8_1 : Int) => Mo.tt) (fun (x8_1 : Int) => Ow.emp) 0 [0, 1, 7, 8] hS rfl ?_
 clear hS
 rintro x8_1 m1 y1 hS hK1
 show VC _ _ _ _ _ [(0, s_0.val), (1, .func (.func 145) #[] #[ptr f_1_0_b 0]), (7, i64 (s_0.l.length : Int)), (8, i64 x8_1)] (Mo.and Mo.tt _) (Ow.emp)
 refine Zq (Zr ?_)
 refine VL.q (q_lss rfl rfl) (by decide) ?_
 refine Zl ?_
 refine Zq ?_
 refine VC.cond_dec rfl (fun h9 => ?_) (fun h9 => ?_)
 ·
  replace hS := it_t h9 hS
  refine Zk ?_
  refine Zq (Zb (Zq (Zr ?_)))
  refine Zm ?_
  refine Za ?_
  refine Zl ?_
  refine Zq (Zr ?_)
  refine Zm ?_
  refine Zm ?_
  refine Zm ?_
  obtain ⟨z14_2, nz14_2, hz14_2, hS⟩ := at_s hS
  refine VL.q (q_ixm (s := s_0) Tryz.underlying29 gsz83 rfl rfl nz14_2 (lt_of_get nz14_2 hz14_2)) (by decide) ?_
  refine VL.q (q_els (s := s_0) gagg83 rfl rfl hz14_2) (by decide) ?_
  obtain ⟨y16_3, ey16_3, hS⟩ := bd_s hS
  refine VL.q (q_callVC (vs := [.agg #[str z14_2.path, i64 z14_2.stage, i64 z14_2.mode, str z14_2.data, i64 z14_2.time, i64 z14_2.size]]) (caps := [ptr f_1_0_b 0]) (plan_known_1_ct z14_2 f_1_0_b f_1_0 ey16_3) rfl rfl (fun _ _ => rfl)) (by decide) ?_
  refine Zl ?_
  refine VC.keep [0, 1, 7, 8, 5, 16] rfl ?_
  refine VC.cond rfl (fun h16 => ?_) (fun h16 => ?_)
  ·
   replace hS := it_t h16 hS
   refine Zq (Zr ?_)
   refine Zm ?_
   refine Za ?_
   refine Zl ?_
   replace hS := up2 hS hK1
   cases hS
   exact Ze
  replace hS := it_b h16 hS
  refine Zk ?_
  refine Zr ?_
  obtain ⟨b18, hS⟩ := gd_s hS
  refine VL.q (q_add rfl rfl b18) (by decide) ?_
  refine Zm ?_
  refine VL.rnd (x8_1 + 1) [0, 1, 7, 8] (fun _ _ h => h) (go2 hS hK1) rfl
 replace hS := it_f h9 hS
 replace hS := up2 hS hK1
 refine Zx ?_
 refine Zq (Zr ?_)
 refine Za ?_
 refine Zl ?_
 cases hS
 exact Ze
theorem slices_ContainsFunc_index_Entry_index_Entry_ct (s_0 : Sv IndexEntry) (f_1_0_b : Nat) (f_1_0 : Str) {r : Bool} (hS : Sh.slices_ContainsFunc_index_Entry_index_Entry s_0.l f_1_0 = some r) :
 Ct Tryz.prog 144 [s_0.val, .func (.func 145) #[] #[ptr f_1_0_b 0]] (s_0.ok.and (Cells f_1_0_b 0 [str f_1_0])) (Ow.emp) (X := Unit) (fun _ => .bool r) (fun _ => True) (fun _ => Mo.tt) (fun _ => Ow.emp) := by
 refine Ct.of Tryz.func144 rfl (by kernel_rfl) Tryz.ntmps144 (by simp) fun c => ?_
 unfold Sh.slices_ContainsFunc_index_Entry_index_Entry at hS
 refine Zq (Zr ?_)
 refine Za ?_
 refine Zl ?_
 refine Zq (Zr ?_)
 refine Zm ?_
 refine Zm ?_
 obtain ⟨y7_1, ey7_1, hS⟩ := bd_s hS
 refine VL.q (q_callR (slices_IndexFunc_index_Entry_index_Entry_v3_ct s_0 f_1_0_b f_1_0 ey7_1) rfl (fun _ _ => rfl)) (by decide) ?_
 refine VL.q (q_geq rfl rfl) (by decide) ?_
 refine Za ?_
 refine Zl ?_
 cases hS
 exact Ze
theorem plan_known_ct (ix_0 : Sv IndexEntry) (p_1 : Str) {r : Bool} (hS : Sh.plan_known ix_0.l p_1 = some r) :
 Ct Tryz.prog 63 [ix_0.val, str p_1] ix_0.ok (Ow.emp) (X := Unit) (fun _ => .bool r) (fun _ => True) (fun _ => Mo.tt) (fun _ => Ow.emp) := by
 refine Ct.of Tryz.func63 rfl (by kernel_rfl) Tryz.ntmps63 (by simp) fun c => ?_
 unfold Sh.plan_known at hS
 refine Zq (Zr ?_)
 refine VL.box (cs := [str p_1]) rfl rfl (by decide) fun b3_1 => ?_
 refine Za ?_
 refine Zl ?_
 refine Zq (Zr ?_)
 refine Zm ?_
 refine VL.q (q_mkfn rfl) (by decide) ?_
 obtain ⟨y7_2, ey7_2, hS⟩ := bd_s hS
 refine VL.q (q_callR (slices_ContainsFunc_index_Entry_index_Entry_ct ix_0 b3_1 p_1 ey7_2) rfl (fun _ _ => rfl)) (by decide) ?_
 refine Za ?_
 refine Zl ?_
 cases hS
 exact Ze
theorem files_Row_Clear_1_ct (f_0 : FilesFile) (a_1_b : Nat) (a_1 : Str) {r : Bool} (hS : Sh.files_Row_Clear_1 f_0 a_1 = some r) :
 Ct Tryz.prog 146 [.agg #[str f_0.path, i64 f_0.mode, str f_0.data], ptr a_1_b 0] (Cells a_1_b 0 [str a_1]) (Ow.emp) (X := Unit) (fun _ => .bool r) (fun _ => True) (fun _ => Mo.tt) (fun _ => Ow.emp) := by
 refine Ct.of Tryz.func146 rfl (by kernel_rfl) Tryz.ntmps146 (by simp) fun c => ?_
 unfold Sh.files_Row_Clear_1 at hS
 refine Zq (Zr ?_)
 refine VL.box (cs := [str f_0.path, i64 f_0.mode, str f_0.data]) rfl rfl (by decide) fun b2_1 => ?_
 refine Za ?_
 refine Zl ?_
 refine Zq (Zr ?_)
 refine VL.q (q_field gfa50_0 rfl) (by decide) ?_
 refine VL.q (q_fe gone9 rfl rfl) (by decide) ?_
 refine VL.q (q_fm gone9 rfl rfl) (by decide) ?_
 obtain ⟨y7_2, ey7_2, hS⟩ := bd_s hS
 refine VL.q (q_call (path_Clash_ct f_0.path a_1 ey7_2) rfl (fun _ _ => rfl)) (by decide) ?_
 refine Za ?_
 refine Zl ?_
 cases hS
 exact Ze
theorem slices_IndexFunc_files_Row_files_File_v2_ct (s_0 : Sv FilesFile) (f_1_0_b : Nat) (f_1_0 : Str) {r : Int} (hS : Sh.slices_IndexFunc_files_Row_files_File_v2 s_0.l f_1_0 = some r) :
 Ct Tryz.prog 216 [s_0.val, .func (.func 146) #[] #[ptr f_1_0_b 0]] (s_0.ok.and (Cells f_1_0_b 0 [str f_1_0])) (Ow.emp) (X := Unit) (fun _ => i64 r) (fun _ => True) (fun _ => Mo.tt) (fun _ => Ow.emp) := by
 refine Ct.of Tryz.func216 rfl (by kernel_rfl) Tryz.ntmps216 (by simp) fun c => ?_
 unfold Sh.slices_IndexFunc_files_Row_files_File_v2 at hS
 refine Zq (Zr ?_)
 refine Za ?_
 refine Zl ?_
 refine Zq (Zq (Zr ?_))
 refine Zm ?_
 refine VL.q (q_ln (s := s_0) Tryz.underlying23 rfl) (by decide) ?_
 refine Zm ?_
 refine Zl ?_
 refine Zb ?_
 refine VC.iter (S := Int) (fun (x8_1 : Int) => x8_1) (fun (x8_1 : Int) => [(0, s_0.val), (1, .func (.func 146) #[] #[ptr f_1_0_b 0]), (7, i64 (s_0.l.length : Int)), (8, i64 x8_1)]) (fun (x8_1 : Int) => Mo.tt) (fun (x8_1 : Int) => Ow.emp) 0 [0, 1, 7, 8] hS rfl ?_
 clear hS
 rintro x8_1 m1 y1 hS hK1
 show VC _ _ _ _ _ [(0, s_0.val), (1, .func (.func 146) #[] #[ptr f_1_0_b 0]), (7, i64 (s_0.l.length : Int)), (8, i64 x8_1)] (Mo.and Mo.tt _) (Ow.emp)
 refine Zq (Zr ?_)
 refine VL.q (q_lss rfl rfl) (by decide) ?_
 refine Zl ?_
 refine Zq ?_
 refine VC.cond_dec rfl (fun h9 => ?_) (fun h9 => ?_)
 ·
  replace hS := it_t h9 hS
  refine Zk ?_
  refine Zq (Zb (Zq (Zr ?_)))
  refine Zm ?_
  refine Za ?_
  refine Zl ?_
  refine Zq (Zr ?_)
  refine Zm ?_
  refine Zm ?_
  refine Zm ?_
  obtain ⟨z14_2, nz14_2, hz14_2, hS⟩ := at_s hS
  refine VL.q (q_ixm (s := s_0) Tryz.underlying23 gsz50 rfl rfl nz14_2 (lt_of_get nz14_2 hz14_2)) (by decide) ?_
  refine VL.q (q_els (s := s_0) gagg50 rfl rfl hz14_2) (by decide) ?_
  obtain ⟨y16_3, ey16_3, hS⟩ := bd_s hS
  refine VL.q (q_callVC (vs := [.agg #[str z14_2.path, i64 z14_2.mode, str z14_2.data]]) (caps := [ptr f_1_0_b 0]) (files_Row_Clear_1_ct z14_2 f_1_0_b f_1_0 ey16_3) rfl rfl (fun _ _ => rfl)) (by decide) ?_
  refine Zl ?_
  refine VC.keep [0, 1, 7, 8, 5, 16] rfl ?_
  refine VC.cond rfl (fun h16 => ?_) (fun h16 => ?_)
  ·
   replace hS := it_t h16 hS
   refine Zq (Zr ?_)
   refine Zm ?_
   refine Za ?_
   refine Zl ?_
   replace hS := up2 hS hK1
   cases hS
   exact Ze
  replace hS := it_b h16 hS
  refine Zk ?_
  refine Zr ?_
  obtain ⟨b18, hS⟩ := gd_s hS
  refine VL.q (q_add rfl rfl b18) (by decide) ?_
  refine Zm ?_
  refine VL.rnd (x8_1 + 1) [0, 1, 7, 8] (fun _ _ h => h) (go2 hS hK1) rfl
 replace hS := it_f h9 hS
 replace hS := up2 hS hK1
 refine Zx ?_
 refine Zq (Zr ?_)
 refine Za ?_
 refine Zl ?_
 cases hS
 exact Ze
theorem slices_DeleteFunc_files_Row_files_File_v2_ct (s_0 : Sv FilesFile) (del_1_0_b : Nat) (del_1_0 : Str) {r : List FilesFile} (hS : Sh.slices_DeleteFunc_files_Row_files_File_v2 s_0.l del_1_0 = some r) :
 Ct Tryz.prog 140 [s_0.val, .func (.func 146) #[] #[ptr del_1_0_b 0]] Mo.tt (Ow.star (Sv.own s_0 50) (Blk del_1_0_b [str del_1_0] 9)) (X := Sv FilesFile) (fun x => x.val) (fun x => r = x.l) (fun x => Mo.tt) (fun x => Ow.star (Sv.own x 50) (Blk del_1_0_b [str del_1_0] 9)) := by
 refine Ct.of Tryz.func140 rfl (by kernel_rfl) Tryz.ntmps140 (by simp) fun c => ?_
 unfold Sh.slices_DeleteFunc_files_Row_files_File_v2 at hS
 refine Zq (Zr ?_)
 refine Za ?_
 refine Zl ?_
 refine Zq (Zr ?_)
 refine Zm ?_
 refine Zm ?_
 obtain ⟨y10_1, ey10_1, hS⟩ := bd_s hS
 refine VL.q (q_callR (slices_IndexFunc_files_Row_files_File_v2_ct s_0 del_1_0_b del_1_0 ey10_1) rfl (fun _ _ => rfl)) (by decide) ?_
 refine Za ?_
 refine Zl ?_
 refine Zq (Zq (Zr ?_))
 refine Zm ?_
 refine VL.q (q_eql rfl rfl) (by decide) ?_
 refine Zl ?_
 refine VC.cond_dec rfl (fun h12 => ?_) (fun h12 => ?_)
 ·
  replace hS := it_t h12 hS
  refine Zq (Zr ?_)
  refine Zm ?_
  refine Za ?_
  refine Zl ?_
  cases hS
  exact VC.ret (fin1 (.inr rfl) rfl rfl s_0 rfl rfl (by (try dsimp only); exact InM.out) (by (try dsimp only); exact EntO.out))
 replace hS := it_f h12 hS
 refine Zk ?_
 refine Zq (Zq (Zr ?_))
 refine Zm ?_
 obtain ⟨b15, hS⟩ := gd_s hS
 refine VL.q (q_add rfl rfl b15) (by decide) ?_
 refine Za ?_
 refine Zl ?_
 refine VC.keep [0, 1, 5, 6] rfl ?_
 refine Zb ?_
 refine VC.iter (S := Sv FilesFile × Int × Int) (fun sg => (sg.1.l, sg.2.1, sg.2.2)) (fun sg => [(0, sg.1.val), (1, .func (.func 146) #[] #[ptr del_1_0_b 0]), (5, i64 sg.2.1), (6, i64 sg.2.2)]) (fun sg => Mo.tt) (fun sg => Ow.star (Blk del_1_0_b [str del_1_0] 9) (Ow.star (Sv.own sg.1 50) (Ow.emp))) (s_0, y10_1, (y10_1 + 1)) [0, 1, 5, 6] hS rfl ?_
 clear hS
 rintro ⟨s0_2, i5_3, j6_4⟩ m1 y1 hS hK1
 show VC _ _ _ _ _ [(0, s0_2.val), (1, .func (.func 146) #[] #[ptr del_1_0_b 0]), (5, i64 i5_3), (6, i64 j6_4)] (Mo.and Mo.tt _) (Ow.star (Blk del_1_0_b [str del_1_0] 9) (Ow.star (Sv.own s0_2 50) (Ow.emp)))
 refine Zq (Zq (Zr ?_))
 refine Zm ?_
 refine Zm ?_
 refine VL.q (q_ln (s := s0_2) Tryz.underlying23 rfl) (by decide) ?_
 refine VL.q (q_lss rfl rfl) (by decide) ?_
 refine Zl ?_
 refine VC.cond_dec rfl (fun h19 => ?_) (fun h19 => ?_)
 ·
  replace hS := it_t h19 hS
  refine Zk ?_
  refine VC.cutJ (S := Sv FilesFile × Int) (fun sg => (sg.1.l, sg.2)) (fun sg => [(0, sg.1.val), (1, .func (.func 146) #[] #[ptr del_1_0_b 0]), (5, i64 sg.2), (6, i64 j6_4)]) (fun sg => Mo.tt) (fun sg => Ow.star (Blk del_1_0_b [str del_1_0] 9) (Ow.star (Sv.own sg.1 50) (Ow.emp))) hS ?_ ?_
  ·
   clear hS
   intro k7 hS
   refine Zb (Zq (Zr ?_))
   refine Zm ?_
   refine Zm ?_
   obtain ⟨z24_8, nz24_8, hz24_8, hS⟩ := at_s hS
   refine VL.q (q_ixo (s := s0_2) Tryz.underlying23 gsz50 rfl rfl nz24_8 (lt_of_get nz24_8 hz24_8)) (by decide) ?_
   refine VL.q (q_elso (s := s0_2) gagg50 rfl rfl hz24_8) (by decide) ?_
   refine VL.alloc (cs := [str [], i64 0, str []]) (by kernel_rfl) (by decide) fun b7_9 => ?_
   refine VL.store (vc := [str z24_8.path, i64 z24_8.mode, str z24_8.data]) (cs' := [str z24_8.path, i64 z24_8.mode, str z24_8.data]) rfl rfl rfl gsz50 rfl rfl (Nat.le_of_ble_eq_true rfl) rfl ?_
   refine Zl ?_
   refine VC.keep [0, 1, 5, 6, 7] rfl ?_
   refine Zq (Zr ?_)
   refine Zm ?_
   refine VL.q (q_fes gagg50 rfl rfl) (by decide) ?_
   obtain ⟨y28_10, ey28_10, hS⟩ := bd_s hS
   refine VL.q (q_callVC (vs := [.agg #[str z24_8.path, i64 z24_8.mode, str z24_8.data]]) (caps := [ptr del_1_0_b 0]) (files_Row_Clear_1_ct z24_8 del_1_0_b del_1_0 ey28_10) rfl rfl (fun _ _ => rfl)) (by decide) ?_
   refine VL.q (q_not rfl) (by decide) ?_
   refine Zl ?_
   refine VC.cond rfl (fun h29 => ?_) (fun h29 => ?_)
   ·
    replace hS := it_t h29 hS
    refine Zq (Zr ?_)
    refine Zm ?_
    refine Zm ?_
    refine VL.q (q_fes gagg50 rfl rfl) (by decide) ?_
    obtain ⟨z33_11, nz33_11, hz33_11, hS⟩ := at_s hS
    refine VL.q (q_ixo (s := s0_2) Tryz.underlying23 gsz50 rfl rfl nz33_11 (lt_of_get nz33_11 hz33_11)) (by decide) ?_
    refine VL.storeE (s := s0_2) (T := 50) (j := 0) (vc := [str z24_8.path, i64 z24_8.mode, str z24_8.data]) (⟨z24_8.path, z24_8.mode, z24_8.data⟩ : FilesFile) (by decide) rfl rfl hz33_11 rfl gsz50 rfl rfl (Nat.le_of_ble_eq_true rfl) rfl (fun w12 hw12 haw12 hcw12 hvw12 hbw12 how12 => ?_)
    rw [← hvw12]
    replace hS := lt_to hw12 hS
    refine Zl ?_
    refine VC.keep [0, 1, 5, 6] rfl ?_
    refine Zr ?_
    refine Zm ?_
    obtain ⟨b35, hS⟩ := gd_s hS
    refine VL.q (q_add rfl rfl b35) (by decide) ?_
    refine Za ?_
    refine VL.mt (w12, (i5_3 + 1)) [0, 1, 5, 6] (fun _ _ h => h) hS rfl
   replace hS := it_b h29 hS
   refine VC.skip_mt (s0_2, i5_3) [0, 1, 5, 6] (fun _ _ h => h) hS rfl
  clear hS
  rintro ⟨s0_5, i5_6⟩ hS
  show VC _ _ _ _ _ [(0, s0_5.val), (1, .func (.func 146) #[] #[ptr del_1_0_b 0]), (5, i64 i5_6), (6, i64 j6_4)] (Mo.and Mo.tt _) (Ow.star (Blk del_1_0_b [str del_1_0] 9) (Ow.star (Sv.own s0_5 50) (Ow.emp)))
  refine Zr ?_
  refine Zm ?_
  obtain ⟨b21, hS⟩ := gd_s hS
  refine VL.q (q_add rfl rfl b21) (by decide) ?_
  refine Za ?_
  refine VL.rnd (s0_5, i5_6, (j6_4 + 1)) [0, 1, 5, 6] (fun _ _ h => h) (go2 hS hK1) rfl
 replace hS := it_f h19 hS
 replace hS := up2 hS hK1
 refine Zx ?_
 refine Zq (Zr ?_)
 refine Zm ?_
 refine Zm ?_
 obtain ⟨b38, hS⟩ := gd_s hS
 refine VL.fits (s := s0_2) (e := 50) Fo.out fun f38_14 => ?_
 refine VL.q (q_subv (s := s0_2) Tryz.underlying23 gsz50 rfl rfl b38.1 b38.2 f38_14) (by decide) ?_
 refine VL.clrN (s := s0_2) (i := i5_3.toNat) (.agg #[str [], i64 0, str []]) Tryz.underlying23 gzv50 rfl rfl rfl (by have := b38; dsimp only at this ⊢; omega) Fo.out fun ss3_15 hss3_15 vss3_15 => ?_
 replace hS := lt_to hss3_15 hS
 refine Zl ?_
 refine VC.keep [0, 5] rfl ?_
 refine Zq (Zr ?_)
 refine Zm ?_
 refine Zm ?_
 refine VL.q (q_cutO (s := s0_2) (q := ss3_15) Tryz.underlying23 gsz50 rfl rfl b38.1 b38.2 f38_14 vss3_15) (by decide) ?_
 refine Za ?_
 refine Zl ?_
 cases hS
 exact VC.ret (fin1 (.inr rfl) rfl rfl ss3_15 rfl rfl (by (try dsimp only); exact InM.out) (by (try dsimp only); exact EntO.out))
theorem files_Row_Clear_ct (r_0 : Sv FilesFile) (p_1 : Str) {r : List FilesFile} (hS : Sh.files_Row_Clear r_0.l p_1 = some r) :
 Ct Tryz.prog 64 [r_0.val, str p_1] r_0.ok (Ow.emp) (X := Sv FilesFile) (fun x => x.val) (fun x => r = x.l) (fun x => x.ok) (fun x => Ow.emp) := by
 refine Ct.of Tryz.func64 rfl (by kernel_rfl) Tryz.ntmps64 (by simp) fun c => ?_
 unfold Sh.files_Row_Clear at hS
 refine Zq (Zr ?_)
 refine VL.box (cs := [str p_1]) rfl rfl (by decide) fun b3_1 => ?_
 refine Za ?_
 refine Zl ?_
 refine Zq (Zr ?_)
 refine Zm ?_
 obtain ⟨y6_2, ey6_2, hS⟩ := bd_s hS
 refine VL.callO (slices_Clone_files_Row_files_File_ct r_0 ey6_2) rfl (by decide) ?_
 rintro q6_2_0 rfl
 try dsimp only
 refine VL.q (q_mkfn rfl) (by decide) ?_
 obtain ⟨y8_3, ey8_3, hS⟩ := bd_s hS
 refine VL.callO (slices_DeleteFunc_files_Row_files_File_v2_ct q6_2_0 b3_1 p_1 ey8_3) rfl (by decide) ?_
 rintro q8_3_0 rfl
 try dsimp only
 refine VL.shut q8_3_0 50 (fun _ _ _ _ => trivial) ?_
 obtain ⟨y9_4, ey9_4, hS⟩ := bd_s hS
 refine VL.callF (slices_Clip_files_Row_files_File_ct q8_3_0 ey9_4) rfl (by decide) ?_
 rintro q9_4_0 rfl
 try dsimp only
 refine Za ?_
 refine Zl ?_
 cases hS
 exact VC.ret (fin1 (.inr rfl) rfl rfl q9_4_0 rfl rfl (by (try dsimp only); exact InM.out) (fun _ _ => trivial))
theorem plan_Force_ct (head_0 : Sv FilesFile) (to_1 : Sv FilesFile) (ix_2 : Sv IndexEntry) (work_3 : Sv FilesFile) {r : List IndexEntry × List FilesFile} (hS : Sh.plan_Force head_0.l to_1.l ix_2.l work_3.l = some r) :
 Ct Tryz.prog 16 [head_0.val, to_1.val, ix_2.val, work_3.val] (head_0.ok.and (to_1.ok.and (ix_2.ok.and work_3.ok))) (Ow.emp) (X := Sv IndexEntry × Sv FilesFile) (fun x => .tuple #[x.1.val, x.2.val]) (fun x => r = (x.1.l, x.2.l)) (fun x => (x.1.ok.and x.2.ok)) (fun x => Ow.emp) := by
 refine Ct.of Tryz.func16 rfl (by kernel_rfl) Tryz.ntmps16 (by simp) fun c => ?_
 unfold Sh.plan_Force at hS
 refine Zq (Zr ?_)
 refine Za ?_
 refine Za ?_
 refine Zl ?_
 refine Zq (Zr ?_)
 refine Za ?_
 refine Zl ?_
 refine Zq (Zq (Zr ?_))
 refine Zm ?_
 refine VL.q (q_ln (s := work_3) Tryz.underlying23 rfl) (by decide) ?_
 refine Zm ?_
 refine Zl ?_
 refine Zb ?_
 refine VC.nilO (⟨none, 0, []⟩ : Sv FilesFile) 50 ⟨rfl, rfl⟩ ?_
 refine VC.iter (S := Sv FilesFile × Int) (fun sg => (sg.1.l, sg.2)) (fun sg => [(0, head_0.val), (1, to_1.val), (2, ix_2.val), (10, sg.1.val), (15, work_3.val), (16, i64 (work_3.l.length : Int)), (17, i64 sg.2)]) (fun sg => Mo.tt) (fun sg => Ow.star (Sv.own sg.1 50) (Ow.emp)) (⟨none, 0, []⟩, 0) [0, 1, 2, 10, 15, 16, 17] hS rfl ?_
 clear hS
 rintro ⟨out10_1, x17_2⟩ m1 y1 hS hK1
 show VC _ _ _ _ _ [(0, head_0.val), (1, to_1.val), (2, ix_2.val), (10, out10_1.val), (15, work_3.val), (16, i64 (work_3.l.length : Int)), (17, i64 x17_2)] (Mo.and Mo.tt _) (Ow.star (Sv.own out10_1 50) (Ow.emp))
 refine Zq (Zr ?_)
 refine VL.q (q_lss rfl rfl) (by decide) ?_
 refine Zl ?_
 refine Zq ?_
 refine VC.cond_dec rfl (fun h18 => ?_) (fun h18 => ?_)
 ·
  replace hS := it_t h18 hS
  refine Zk ?_
  refine Zq (Zb (Zq (Zr ?_)))
  obtain ⟨z19_3, nz19_3, hz19_3, hS⟩ := at_s hS
  refine VL.q (q_ixm (s := work_3) Tryz.underlying23 gsz50 rfl rfl nz19_3 (lt_of_get nz19_3 hz19_3)) (by decide) ?_
  refine VL.q (q_els (s := work_3) gagg50 rfl rfl hz19_3) (by decide) ?_
  refine VL.alloc (cs := [str [], i64 0, str []]) (by kernel_rfl) (by decide) fun b12_4 => ?_
  refine VL.store (vc := [str z19_3.path, i64 z19_3.mode, str z19_3.data]) (cs' := [str z19_3.path, i64 z19_3.mode, str z19_3.data]) rfl rfl rfl gsz50 rfl rfl (Nat.le_of_ble_eq_true rfl) rfl ?_
  refine Zl ?_
  refine VC.cutJ (S := Bool) (fun (x33_5 : Bool) => x33_5) (fun (x33_5 : Bool) => [(0, head_0.val), (1, to_1.val), (2, ix_2.val), (10, out10_1.val), (12, ptr b12_4 0), (15, work_3.val), (16, i64 (work_3.l.length : Int)), (17, i64 x17_2), (33, .bool x33_5)]) (fun (x33_5 : Bool) => Mo.tt) (fun (x33_5 : Bool) => Ow.star (Blk b12_4 [str z19_3.path, i64 z19_3.mode, str z19_3.data] 50) (Ow.star (Sv.own out10_1 50) (Ow.emp))) hS ?_ ?_
  ·
   clear hS
   intro k6 hS
   refine Zr ?_
   refine Zm ?_
   refine VL.q (q_field gfa50_0 rfl) (by decide) ?_
   refine VL.q (q_fe gone9 rfl rfl) (by decide) ?_
   obtain ⟨y24_7, ey24_7, hS⟩ := bd_s hS
   refine VL.q (q_call (plan_of_ct head_0 z19_3.path ey24_7) rfl (fun _ _ => rfl)) (by decide) ?_
   refine VL.q (q_fld Tryz.underlying116 rfl gone4 rfl rfl) (by decide) ?_
   refine VL.q (q_not rfl) (by decide) ?_
   refine Zm ?_
   refine VL.split 27 rfl (fun h27 => ?_) (fun h27 => ?_)
   ·
    replace hS := it_t h27 hS
    refine Zg ?_
    refine VL.gy rfl rfl (q_field gfa50_0 rfl) (by decide) ?_
    refine VL.gy rfl rfl (q_fe gone9 rfl rfl) (by decide) ?_
    obtain ⟨y31_8, ey31_8, hS⟩ := bd_s hS
    refine VL.gy rfl rfl (q_call (plan_known_ct ix_2 z19_3.path ey31_8) rfl (fun _ _ => rfl)) (by decide) ?_
    refine VL.gy rfl rfl (q_not rfl) (by decide) ?_
    refine Zt ?_
    refine VL.mt (!y31_8) [0, 1, 2, 10, 12, 15, 16, 17, 33] (fun _ _ h => h) hS rfl
   replace hS := it_b h27 hS
   refine Zn ?_
   refine Zn ?_
   refine Zn ?_
   refine Zn ?_
   refine Zn ?_
   refine Zf ?_
   refine VL.mt false [0, 1, 2, 10, 12, 15, 16, 17, 33] (fun _ _ h => h) hS rfl
  clear hS
  rintro x33_5 hS
  show VC _ _ _ _ _ [(0, head_0.val), (1, to_1.val), (2, ix_2.val), (10, out10_1.val), (12, ptr b12_4 0), (15, work_3.val), (16, i64 (work_3.l.length : Int)), (17, i64 x17_2), (33, .bool x33_5)] (Mo.and Mo.tt _) (Ow.star (Blk b12_4 [str z19_3.path, i64 z19_3.mode, str z19_3.data] 50) (Ow.star (Sv.own out10_1 50) (Ow.emp)))
  refine VC.cond rfl (fun h33 => ?_) (fun h33 => ?_)
  ·
   replace hS := it_t h33 hS
   refine Zr ?_
   refine Zm ?_
   refine VL.q (q_fes gagg50 rfl rfl) (by decide) ?_
   refine VL.lit (α := FilesFile) (xs := [.tmp 35]) (vs := [.agg #[str z19_3.path, i64 z19_3.mode, str z19_3.data]]) [⟨z19_3.path, z19_3.mode, z19_3.data⟩] Tryz.underlying23 glit50 (by decide) rfl rfl rfl rfl (by decide) (fun _ _ _ _ => trivial) (by decide) (fun s36_9 hs36_9 => ?_) (by decide)
   replace hS := lt_to hs36_9 hS
   obtain ⟨b37, hS⟩ := gd_s hS
   refine VL.app (s := out10_1) (r := s36_9) Tryz.underlying23 gapp50 (by decide) rfl Fo.out (ap1 b37) (ap2 b37 (by decide)) (by decide) (fun s37_11 hs37_11 => ?_)
   replace hS := lt_to hs37_11 hS
   refine Za ?_
   refine Zl ?_
   refine Zr ?_
   obtain ⟨b38, hS⟩ := gd_s hS
   refine VL.q (q_add rfl rfl b38) (by decide) ?_
   refine Zm ?_
   refine VL.rnd (s37_11, (x17_2 + 1)) [0, 1, 2, 10, 15, 16, 17] (fun _ _ h => h) (go2 hS hK1) rfl
  replace hS := it_b h33 hS
  refine Zk ?_
  refine Zr ?_
  obtain ⟨b38, hS⟩ := gd_s hS
  refine VL.q (q_add rfl rfl b38) (by decide) ?_
  refine Zm ?_
  refine VL.rnd (out10_1, (x17_2 + 1)) [0, 1, 2, 10, 15, 16, 17] (fun _ _ h => h) (go2 hS hK1) rfl
 replace hS := it_f h18 hS
 replace hS := up2 hS hK1
 refine Zx ?_
 refine Zq (Zq (Zr ?_))
 refine Zm ?_
 refine VL.q (q_ln (s := to_1) Tryz.underlying23 rfl) (by decide) ?_
 refine Zm ?_
 refine Zl ?_
 refine Zb ?_
 refine VC.shut out10_1 50 (fun _ _ _ _ => trivial) ?_
 refine VC.iter (S := Sv FilesFile × Int) (fun sg => (sg.1.l, sg.2)) (fun sg => [(1, to_1.val), (10, sg.1.val), (39, to_1.val), (40, i64 (to_1.l.length : Int)), (41, i64 sg.2)]) (fun sg => sg.1.ok) (fun sg => Ow.emp) (out10_1, 0) [1, 10, 39, 40, 41] hS rfl ?_
 clear hS
 rintro ⟨out10_13, x41_14⟩ m1 y1 hS hK1
 show VC _ _ _ _ _ [(1, to_1.val), (10, out10_13.val), (39, to_1.val), (40, i64 (to_1.l.length : Int)), (41, i64 x41_14)] (Mo.and out10_13.ok _) (Ow.emp)
 refine Zq (Zr ?_)
 refine VL.q (q_lss rfl rfl) (by decide) ?_
 refine Zl ?_
 refine Zq ?_
 refine VC.cond_dec rfl (fun h42 => ?_) (fun h42 => ?_)
 ·
  replace hS := it_t h42 hS
  refine Zk ?_
  refine Zq (Zb (Zq (Zr ?_)))
  obtain ⟨z43_15, nz43_15, hz43_15, hS⟩ := at_s hS
  refine VL.q (q_ixm (s := to_1) Tryz.underlying23 gsz50 rfl rfl nz43_15 (lt_of_get nz43_15 hz43_15)) (by decide) ?_
  refine VL.q (q_els (s := to_1) gagg50 rfl rfl hz43_15) (by decide) ?_
  refine VL.alloc (cs := [str [], i64 0, str []]) (by kernel_rfl) (by decide) fun b14_16 => ?_
  refine VL.store (vc := [str z43_15.path, i64 z43_15.mode, str z43_15.data]) (cs' := [str z43_15.path, i64 z43_15.mode, str z43_15.data]) rfl rfl rfl gsz50 rfl rfl (Nat.le_of_ble_eq_true rfl) rfl ?_
  refine Zl ?_
  refine VC.draw [(0, true), (1, true), (2, true), (4, true), (3, false), (5, false), (6, true)] mixed (by kernel_rfl) (by kernel_rfl) (by kernel_rfl) ?_
  refine VD.q rfl (q_move rfl) (by decide) ?_
  refine VD.q rfl (q_field gfa50_0 rfl) (by decide) ?_
  refine VD.q rfl (q_fe gone9 rfl rfl) (by decide) ?_
  refine VD.q rfl (q_fes gagg50 rfl rfl) (by decide) ?_
  refine VD.one rfl ?_
  obtain ⟨y48_17, ey48_17, hS⟩ := bd_s hS
  refine VL.callF (files_Row_Clear_ct out10_13 z43_15.path ey48_17) rfl (by decide) ?_
  rintro q48_17_0 rfl
  try dsimp only
  refine VL.back (D' := [(4, .agg #[str z43_15.path, i64 z43_15.mode, str z43_15.data])]) (by kernel_rfl) (Pend.cons rfl (q_fes gagg50 rfl rfl) (Pend.nil)) ?_
  refine VD.one rfl ?_
  obtain ⟨y50_18, ey50_18, hS⟩ := bd_s hS
  refine VL.callF (files_Row_Put_ct q48_17_0 z43_15 ey50_18) rfl (by decide) ?_
  rintro q50_18_0 rfl
  try dsimp only
  refine VL.back (D' := []) (by kernel_rfl) (Pend.nil) ?_
  refine VD.q rfl (q_assign rfl) (by decide) ?_
  refine VD.to (fun _ _ h => h) ?_
  refine VC.keep [1, 10, 39, 40, 41] rfl ?_
  refine Zr ?_
  obtain ⟨b51, hS⟩ := gd_s hS
  refine VL.q (q_add rfl rfl b51) (by decide) ?_
  refine Zm ?_
  refine VL.rnd (q50_18_0, (x41_14 + 1)) [1, 10, 39, 40, 41] (fun _ _ h => h) (go2 hS hK1) rfl
 replace hS := it_f h42 hS
 replace hS := up2 hS hK1
 refine Zx ?_
 refine Zq (Zr ?_)
 refine Zm ?_
 obtain ⟨y53_19, ey53_19, hS⟩ := bd_s hS
 refine VL.callF (index_Of_ct to_1 ey53_19) rfl (by decide) ?_
 rintro q53_19_0 rfl
 try dsimp only
 refine Zm ?_
 obtain ⟨y55_20, ey55_20, hS⟩ := bd_s hS
 refine VL.callF (slices_Clip_files_Row_files_File_ct out10_13 ey55_20) rfl (by decide) ?_
 rintro q55_20_0 rfl
 try dsimp only
 refine Za ?_
 refine Za ?_
 refine Zl ?_
 refine VC.keep [8, 9] rfl ?_
 cases hS
 exact VC.ret (fin2 (.inr rfl) rfl rfl rfl (q53_19_0, q55_20_0) rfl rfl (by (try dsimp only); exact InM.out) (fun _ _ => trivial))
theorem rectolaw20_known_ct  {r : Bool} (hS : Sh.rectolaw20_known = some r) :
 Ct Tryz.prog 11 [] Mo.tt (Ow.emp) (X := Unit) (fun _ => .bool r) (fun _ => True) (fun _ => Mo.tt) (fun _ => Ow.emp) := by
 refine Ct.of Tryz.func11 rfl (by kernel_rfl) Tryz.ntmps11 (by simp) fun c => ?_
 unfold Sh.rectolaw20_known at hS
 refine Zq (Zr ?_)
 refine Za ?_
 refine Zl ?_
 refine Zq (Zr ?_)
 refine VL.q (q_build (vs := [(0, str [97]), (1, i64 1), (2, str [120])]) (cs := #[str [97], i64 1, str [120]]) rfl (by kernel_rfl)) (by decide) ?_
 refine VL.lit (α := FilesFile) (xs := [.tmp 12]) (vs := [.agg #[str [97], i64 1, str [120]]]) [⟨[97], 1, [120]⟩] Tryz.underlying23 glit50 (by decide) rfl rfl rfl rfl (by decide) (fun _ _ _ _ => trivial) (by decide) (fun s13_1 hs13_1 => ?_) (by decide)
 replace hS := lt_to hs13_1 hS
 refine Za ?_
 refine Zl ?_
 refine Zq (Zr ?_)
 refine VL.q (q_build (vs := [(0, str [97]), (1, i64 1), (2, str [121])]) (cs := #[str [97], i64 1, str [121]]) rfl (by kernel_rfl)) (by decide) ?_
 refine VL.lit (α := FilesFile) (xs := [.tmp 14]) (vs := [.agg #[str [97], i64 1, str [121]]]) [⟨[97], 1, [121]⟩] Tryz.underlying23 glit50 (by decide) rfl rfl rfl rfl (by decide) (fun _ _ _ _ => trivial) (by decide) (fun s15_3 hs15_3 => ?_) (by decide)
 replace hS := lt_to hs15_3 hS
 refine VL.q (q_build (vs := [(0, s15_3.val)]) (cs := #[s15_3.val, .slice none 0 0, .slice none 0 0]) rfl (by kernel_rfl)) (by decide) ?_
 refine VL.alloc (cs := [.slice none 0 0, .slice none 0 0, .slice none 0 0]) (by kernel_rfl) (by decide) fun b2_5 => ?_
 refine VL.store (vc := [s15_3.val, .slice none 0 0, .slice none 0 0]) (cs' := [s15_3.val, .slice none 0 0, .slice none 0 0]) rfl rfl rfl gsz34 rfl rfl (Nat.le_of_ble_eq_true rfl) rfl ?_
 refine Zl ?_
 refine Zq ?_
 refine VC.draw [(0, true), (1, true), (2, true), (4, true), (3, false), (5, false), (6, true), (7, true), (8, true), (9, true), (10, true), (11, true), (12, true)] mixed (by kernel_rfl) (by kernel_rfl) (by kernel_rfl) ?_
 refine VD.q rfl (q_move rfl) (by decide) ?_
 refine VD.q rfl (q_fes gagg34 rfl rfl) (by decide) ?_
 refine VD.q rfl (q_move rfl) (by decide) ?_
 refine VD.q rfl (q_move rfl) (by decide) ?_
 refine VD.one rfl ?_
 obtain ⟨y21_6, ey21_6, hS⟩ := bd_s hS
 refine VL.callF (index_Of_ct s13_1 ey21_6) rfl (by decide) ?_
 rintro q21_6_0 rfl
 try dsimp only
 refine VL.back (D' := [(1, .agg #[s15_3.val, .slice none 0 0, .slice none 0 0])]) (by kernel_rfl) (Pend.cons rfl (q_fes gagg34 rfl rfl) (Pend.nil)) ?_
 refine VD.one rfl ?_
 obtain ⟨y23_7, ey23_7, hS⟩ := bd_s hS
 refine VL.callF (plan_Apply_ct s13_1 (⟨s15_3, ⟨none, 0, []⟩, ⟨none, 0, []⟩⟩ : TmergeResult) q21_6_0 s13_1 ey23_7) rfl (by decide) ?_
 rintro ⟨q23_7_0, q23_7_1, q23_7_2⟩ rfl
 try dsimp only
 refine VL.back (D' := []) (by kernel_rfl) (Pend.nil) ?_
 refine VD.q rfl (q_move rfl) (by decide) ?_
 refine VD.q rfl (q_extract rfl rfl) (by decide) ?_
 refine VD.q rfl (q_extract rfl rfl) (by decide) ?_
 refine VD.q rfl (q_extract rfl rfl) (by decide) ?_
 refine VD.q rfl (q_assign rfl) (by decide) ?_
 refine VD.q rfl (q_assign rfl) (by decide) ?_
 refine VD.q rfl (q_assign rfl) (by decide) ?_
 refine VD.to (fun _ _ h => h) ?_
 refine VC.keep [1, 2, 3, 4, 5] rfl ?_
 refine Zq ?_
 refine VC.drawG (n := 10) (listed := #[true, true, true, false, true, false, false, false, false, false, false, false, false, false]) [(0, true), (1, true), (2, true), (4, true)] mixed (by kernel_rfl) (by kernel_rfl) (by kernel_rfl) (by kernel_rfl) ?_
 refine VD.q rfl (q_move rfl) (by decide) ?_
 refine VD.q rfl (q_fes gagg34 rfl rfl) (by decide) ?_
 refine VD.q rfl (q_move rfl) (by decide) ?_
 refine VD.q rfl (q_build (vs := [(0, str [97]), (1, i64 1), (2, str [122])]) (cs := #[str [97], i64 1, str [122]]) rfl (by kernel_rfl)) (by decide) ?_
 obtain ⟨y31_8, ey31_8, hS⟩ := bd_s hS
 obtain ⟨y33_9, ey33_9, hS⟩ := lt_s hS
 refine VD.toG fun hcl => ?_
 refine VG.fork (l := [3, 5]) (n := 9) (by kernel_rfl) rfl fun i hi => ?_
 obtain rfl | rfl : i = 3 ∨ i = 5 := by simpa using hi
 ·
  refine VGo.of rfl ?_
  refine VL.callF (index_Of_ct s13_1 ey31_8) rfl (by decide) ?_
  rintro q31_10_0 rfl
  try dsimp only
  refine VL.backX (D' := [(4, .agg #[str [97], i64 1, str [122]]), (1, .agg #[s15_3.val, .slice none 0 0, .slice none 0 0])]) (listed' := #[true, true, true, true, true, false, false, false, false, false, false, false, false, false]) (Pend.cons rfl (q_build (vs := [(0, str [97]), (1, i64 1), (2, str [122])]) (cs := #[str [97], i64 1, str [122]]) rfl (by kernel_rfl)) (Pend.cons rfl (q_fes gagg34 rfl rfl) (Pend.nil))) (by kernel_rfl) (by kernel_rfl) ?_
  refine VG.ord [(5, false), (6, false), (7, true), (8, true), (9, true), (10, true), (11, true), (12, true), (13, true)] (by kernel_rfl) (closed_of (by kernel_rfl)) (by kernel_rfl) ?_
  refine VD.one rfl ?_
  refine VL.lit (α := FilesFile) (xs := [.tmp 32]) (vs := [.agg #[str [97], i64 1, str [122]]]) [⟨[97], 1, [122]⟩] Tryz.underlying23 glit50 (by decide) rfl rfl rfl rfl (by decide) (fun _ _ _ _ => trivial) (by decide) (fun s33_11 hs33_11 => ?_) (by decide)
  obtain rfl : y33_9 = s33_11.l := ey33_9.symm.trans hs33_11.symm
  refine VL.back (D' := [(1, .agg #[s15_3.val, .slice none 0 0, .slice none 0 0])]) (by kernel_rfl) (Pend.cons rfl (q_fes gagg34 rfl rfl) (Pend.nil)) ?_
  refine VD.one rfl ?_
  obtain ⟨y34_12, ey34_12, hS⟩ := bd_s hS
  refine VL.callF (plan_Apply_ct s13_1 (⟨s15_3, ⟨none, 0, []⟩, ⟨none, 0, []⟩⟩ : TmergeResult) q31_10_0 s33_11 ey34_12) rfl (by decide) ?_
  rintro ⟨q34_12_0, q34_12_1, q34_12_2⟩ rfl
  try dsimp only
  refine VL.back (D' := []) (by kernel_rfl) (Pend.nil) ?_
  refine VD.q rfl (q_move rfl) (by decide) ?_
  refine VD.q rfl (q_extract rfl rfl) (by decide) ?_
  refine VD.q rfl (q_extract rfl rfl) (by decide) ?_
  refine VD.q rfl (q_extract rfl rfl) (by decide) ?_
  refine VD.q rfl (q_assign rfl) (by decide) ?_
  refine VD.q rfl (q_assign rfl) (by decide) ?_
  refine VD.q rfl (q_assign rfl) (by decide) ?_
  refine VD.to (fun _ _ h => h) ?_
  refine VC.keep [1, 2, 3, 4, 5, 8] rfl ?_
  refine Zq ?_
  refine VC.draw [(0, true), (1, true), (2, true), (3, false), (4, false), (5, true)] mixed (by kernel_rfl) (by kernel_rfl) (by kernel_rfl) ?_
  refine VD.q rfl (q_move rfl) (by decide) ?_
  refine VD.q rfl (q_fes gagg34 rfl rfl) (by decide) ?_
  refine VD.q rfl (q_move rfl) (by decide) ?_
  refine VD.one rfl ?_
  obtain ⟨y41_13, ey41_13, hS⟩ := bd_s hS
  refine VL.callF (index_Of_ct s13_1 ey41_13) rfl (by decide) ?_
  rintro q41_13_0 rfl
  try dsimp only
  refine VL.back (D' := [(1, .agg #[s15_3.val, .slice none 0 0, .slice none 0 0])]) (by kernel_rfl) (Pend.cons rfl (q_fes gagg34 rfl rfl) (Pend.nil)) ?_
  refine VD.one rfl ?_
  obtain ⟨y42_14, ey42_14, hS⟩ := bd_s hS
  refine VL.callF (plan_Lost_ct s13_1 (⟨s15_3, ⟨none, 0, []⟩, ⟨none, 0, []⟩⟩ : TmergeResult) q41_13_0 ⟨none, 0, []⟩ ey42_14) rfl (by decide) ?_
  rintro q42_14_0 rfl
  try dsimp only
  refine VL.back (D' := []) (by kernel_rfl) (Pend.nil) ?_
  refine VD.q rfl (q_assign rfl) (by decide) ?_
  refine VD.to (fun _ _ h => h) ?_
  refine Zq (Zr ?_)
  refine Zm ?_
  refine Zm ?_
  obtain ⟨y46_15, ey46_15, hS⟩ := bd_s hS
  refine VL.callF (index_Of_ct s13_1 ey46_15) rfl (by decide) ?_
  rintro q46_15_0 rfl
  try dsimp only
  refine Zm ?_
  obtain ⟨y48_16, ey48_16, hS⟩ := bd_s hS
  refine VL.callF (plan_Force_ct s13_1 ⟨none, 0, []⟩ q46_15_0 s13_1 ey48_16) rfl (by decide) ?_
  rintro ⟨q48_16_0, q48_16_1⟩ rfl
  try dsimp only
  refine Zm ?_
  refine VL.q (q_extract rfl rfl) (by decide) ?_
  refine VL.q (q_extract rfl rfl) (by decide) ?_
  refine Za ?_
  refine Za ?_
  refine Zl ?_
  refine VC.keep [3, 4, 5, 8, 9, 10, 11] rfl ?_
  refine Zq (Zr ?_)
  refine Zm ?_
  refine VL.q (q_ereq Tryz.underlying27 rfl) (by decide) ?_
  refine Zm ?_
  refine VL.split_dec 53 rfl (fun h53 => ?_) (fun h53 => ?_)
  ·
   replace hS := it_t h53 hS
   refine Zg ?_
   refine VL.gy rfl rfl (q_erne Tryz.underlying27 rfl) (by decide) ?_
   refine Zt ?_
   refine Zm ?_
   refine VL.split_ndec 57 rfl (fun h57 => ?_) (fun h57 => ?_)
   ·
    replace hS := it_f h57 hS
    refine Zg ?_
    refine VL.gy rfl rfl (q_ln (s := q23_7_0) Tryz.underlying29 rfl) (by decide) ?_
    refine VL.gy rfl rfl (q_eql rfl rfl) (by decide) ?_
    refine Zt ?_
    refine Zm ?_
    refine VL.split_dec 62 rfl (fun h62 => ?_) (fun h62 => ?_)
    ·
     replace hS := it_t h62 hS
     refine Zg ?_
     obtain ⟨z64_17, nz64_17, hz64_17, hS⟩ := at_s hS
     refine VL.gy rfl rfl (q_ixm (s := q23_7_0) Tryz.underlying29 gsz83 rfl rfl nz64_17 (lt_of_get nz64_17 hz64_17)) (by decide) ?_
     refine VL.gy rfl rfl (q_field gfa83_3 rfl) (by decide) ?_
     refine VL.gy rfl rfl (q_elf (s := q23_7_0) gone9 rfl hz64_17 rfl) (by decide) ?_
     refine VL.gy rfl rfl (q_seq rfl rfl) (by decide) ?_
     refine Zt ?_
     refine Zm ?_
     refine VL.split_dec 69 rfl (fun h69 => ?_) (fun h69 => ?_)
     ·
      replace hS := it_t h69 hS
      refine Zg ?_
      refine VL.gy rfl rfl (q_ln (s := q23_7_1) Tryz.underlying23 rfl) (by decide) ?_
      refine VL.gy rfl rfl (q_eql rfl rfl) (by decide) ?_
      refine Zt ?_
      refine Zm ?_
      refine VL.split_dec 74 rfl (fun h74 => ?_) (fun h74 => ?_)
      ·
       replace hS := it_t h74 hS
       refine Zg ?_
       obtain ⟨z76_18, nz76_18, hz76_18, hS⟩ := at_s hS
       refine VL.gy rfl rfl (q_ixm (s := q23_7_1) Tryz.underlying23 gsz50 rfl rfl nz76_18 (lt_of_get nz76_18 hz76_18)) (by decide) ?_
       refine VL.gy rfl rfl (q_field gfa50_2 rfl) (by decide) ?_
       refine VL.gy rfl rfl (q_elf (s := q23_7_1) gone9 rfl hz76_18 rfl) (by decide) ?_
       refine VL.gy rfl rfl (q_seq rfl rfl) (by decide) ?_
       refine Zt ?_
       refine Zm ?_
       refine VL.split_dec 81 rfl (fun h81 => ?_) (fun h81 => ?_)
       ·
        replace hS := it_t h81 hS
        refine Zg ?_
        refine VL.gy rfl rfl (q_ln (s := q42_14_0) Tryz.underlying32 rfl) (by decide) ?_
        refine VL.gy rfl rfl (q_eql rfl rfl) (by decide) ?_
        refine Zt ?_
        refine Zm ?_
        refine VL.split_dec 86 rfl (fun h86 => ?_) (fun h86 => ?_)
        ·
         replace hS := it_t h86 hS
         refine Zg ?_
         refine VL.gy rfl rfl (q_ln (s := q48_16_0) Tryz.underlying29 rfl) (by decide) ?_
         refine VL.gy rfl rfl (q_eql rfl rfl) (by decide) ?_
         refine Zt ?_
         refine Zm ?_
         refine VL.split_dec 91 rfl (fun h91 => ?_) (fun h91 => ?_)
         ·
          replace hS := it_t h91 hS
          refine Zg ?_
          refine VL.gy rfl rfl (q_ln (s := q48_16_1) Tryz.underlying23 rfl) (by decide) ?_
          refine VL.gy rfl rfl (q_eql rfl rfl) (by decide) ?_
          refine Zt ?_
          refine Za ?_
          refine Zl ?_
          refine VC.keep [0] rfl ?_
          cases hS
          exact Ze
         replace hS := it_f h91 hS
         refine Zn ?_
         refine Zn ?_
         refine Zn ?_
         refine Zf ?_
         refine Za ?_
         refine Zl ?_
         refine VC.keep [0] rfl ?_
         cases hS
         exact Ze
        replace hS := it_f h86 hS
        refine Zn ?_
        refine Zn ?_
        refine Zn ?_
        refine Zf ?_
        refine Zm ?_
        refine Zn ?_
        refine Zn ?_
        refine Zn ?_
        refine Zf ?_
        refine Za ?_
        refine Zl ?_
        refine VC.keep [0] rfl ?_
        cases hS
        exact Ze
       replace hS := it_f h81 hS
       refine Zn ?_
       refine Zn ?_
       refine Zn ?_
       refine Zf ?_
       refine Zm ?_
       refine Zn ?_
       refine Zn ?_
       refine Zn ?_
       refine Zf ?_
       refine Zm ?_
       refine Zn ?_
       refine Zn ?_
       refine Zn ?_
       refine Zf ?_
       refine Za ?_
       refine Zl ?_
       refine VC.keep [0] rfl ?_
       cases hS
       exact Ze
      replace hS := it_f h74 hS
      refine Zn ?_
      refine Zn ?_
      refine Zn ?_
      refine Zn ?_
      refine Zn ?_
      refine Zf ?_
      refine Zm ?_
      refine Zn ?_
      refine Zn ?_
      refine Zn ?_
      refine Zf ?_
      refine Zm ?_
      refine Zn ?_
      refine Zn ?_
      refine Zn ?_
      refine Zf ?_
      refine Zm ?_
      refine Zn ?_
      refine Zn ?_
      refine Zn ?_
      refine Zf ?_
      refine Za ?_
      refine Zl ?_
      refine VC.keep [0] rfl ?_
      cases hS
      exact Ze
     replace hS := it_f h69 hS
     refine Zn ?_
     refine Zn ?_
     refine Zn ?_
     refine Zf ?_
     refine Zm ?_
     refine Zn ?_
     refine Zn ?_
     refine Zn ?_
     refine Zn ?_
     refine Zn ?_
     refine Zf ?_
     refine Zm ?_
     refine Zn ?_
     refine Zn ?_
     refine Zn ?_
     refine Zf ?_
     refine Zm ?_
     refine Zn ?_
     refine Zn ?_
     refine Zn ?_
     refine Zf ?_
     refine Zm ?_
     refine Zn ?_
     refine Zn ?_
     refine Zn ?_
     refine Zf ?_
     refine Za ?_
     refine Zl ?_
     refine VC.keep [0] rfl ?_
     cases hS
     exact Ze
    replace hS := it_f h62 hS
    refine Zn ?_
    refine Zn ?_
    refine Zn ?_
    refine Zn ?_
    refine Zn ?_
    refine Zf ?_
    refine Zm ?_
    refine Zn ?_
    refine Zn ?_
    refine Zn ?_
    refine Zf ?_
    refine Zm ?_
    refine Zn ?_
    refine Zn ?_
    refine Zn ?_
    refine Zn ?_
    refine Zn ?_
    refine Zf ?_
    refine Zm ?_
    refine Zn ?_
    refine Zn ?_
    refine Zn ?_
    refine Zf ?_
    refine Zm ?_
    refine Zn ?_
    refine Zn ?_
    refine Zn ?_
    refine Zf ?_
    refine Zm ?_
    refine Zn ?_
    refine Zn ?_
    refine Zn ?_
    refine Zf ?_
    refine Za ?_
    refine Zl ?_
    refine VC.keep [0] rfl ?_
    cases hS
    exact Ze
   replace hS := it_t h57 hS
   refine Zn ?_
   refine Zn ?_
   refine Zn ?_
   refine Zf ?_
   refine Zm ?_
   refine Zn ?_
   refine Zn ?_
   refine Zn ?_
   refine Zn ?_
   refine Zn ?_
   refine Zf ?_
   refine Zm ?_
   refine Zn ?_
   refine Zn ?_
   refine Zn ?_
   refine Zf ?_
   refine Zm ?_
   refine Zn ?_
   refine Zn ?_
   refine Zn ?_
   refine Zn ?_
   refine Zn ?_
   refine Zf ?_
   refine Zm ?_
   refine Zn ?_
   refine Zn ?_
   refine Zn ?_
   refine Zf ?_
   refine Zm ?_
   refine Zn ?_
   refine Zn ?_
   refine Zn ?_
   refine Zf ?_
   refine Zm ?_
   refine Zn ?_
   refine Zn ?_
   refine Zn ?_
   refine Zf ?_
   refine Za ?_
   refine Zl ?_
   refine VC.keep [0] rfl ?_
   cases hS
   exact Ze
  replace hS := it_f h53 hS
  refine Zn ?_
  refine Zn ?_
  refine Zf ?_
  refine Zm ?_
  refine Zn ?_
  refine Zn ?_
  refine Zn ?_
  refine Zf ?_
  refine Zm ?_
  refine Zn ?_
  refine Zn ?_
  refine Zn ?_
  refine Zn ?_
  refine Zn ?_
  refine Zf ?_
  refine Zm ?_
  refine Zn ?_
  refine Zn ?_
  refine Zn ?_
  refine Zf ?_
  refine Zm ?_
  refine Zn ?_
  refine Zn ?_
  refine Zn ?_
  refine Zn ?_
  refine Zn ?_
  refine Zf ?_
  refine Zm ?_
  refine Zn ?_
  refine Zn ?_
  refine Zn ?_
  refine Zf ?_
  refine Zm ?_
  refine Zn ?_
  refine Zn ?_
  refine Zn ?_
  refine Zf ?_
  refine Zm ?_
  refine Zn ?_
  refine Zn ?_
  refine Zn ?_
  refine Zf ?_
  refine Za ?_
  refine Zl ?_
  refine VC.keep [0] rfl ?_
  cases hS
  exact Ze
 refine VGo.of rfl ?_
 refine VL.lit (α := FilesFile) (xs := [.tmp 32]) (vs := [.agg #[str [97], i64 1, str [122]]]) [⟨[97], 1, [122]⟩] Tryz.underlying23 glit50 (by decide) rfl rfl rfl rfl (by decide) (fun _ _ _ _ => trivial) (by decide) (fun s33_10 hs33_10 => ?_) (by decide)
 obtain rfl : y33_9 = s33_10.l := ey33_9.symm.trans hs33_10.symm
 refine VL.backX (D' := [(1, .agg #[s15_3.val, .slice none 0 0, .slice none 0 0])]) (listed' := #[true, true, true, false, true, true, false, false, false, false, false, false, false, false]) (Pend.cons rfl (q_fes gagg34 rfl rfl) (Pend.nil)) (by kernel_rfl) (by kernel_rfl) ?_
 refine VG.ord [(3, false), (6, false), (7, true), (8, true), (9, true), (10, true), (11, true), (12, true), (13, true)] (by kernel_rfl) (closed_of (by kernel_rfl)) (by kernel_rfl) ?_
 refine VD.one rfl ?_
 refine VL.callF (index_Of_ct s13_1 ey31_8) rfl (by decide) ?_
 rintro q31_11_0 rfl
 try dsimp only
 refine VL.back (D' := [(1, .agg #[s15_3.val, .slice none 0 0, .slice none 0 0])]) (by kernel_rfl) (Pend.cons rfl (q_fes gagg34 rfl rfl) (Pend.nil)) ?_
 refine VD.one rfl ?_
 obtain ⟨y34_12, ey34_12, hS⟩ := bd_s hS
 refine VL.callF (plan_Apply_ct s13_1 (⟨s15_3, ⟨none, 0, []⟩, ⟨none, 0, []⟩⟩ : TmergeResult) q31_11_0 s33_10 ey34_12) rfl (by decide) ?_
 rintro ⟨q34_12_0, q34_12_1, q34_12_2⟩ rfl
 try dsimp only
 refine VL.back (D' := []) (by kernel_rfl) (Pend.nil) ?_
 refine VD.q rfl (q_move rfl) (by decide) ?_
 refine VD.q rfl (q_extract rfl rfl) (by decide) ?_
 refine VD.q rfl (q_extract rfl rfl) (by decide) ?_
 refine VD.q rfl (q_extract rfl rfl) (by decide) ?_
 refine VD.q rfl (q_assign rfl) (by decide) ?_
 refine VD.q rfl (q_assign rfl) (by decide) ?_
 refine VD.q rfl (q_assign rfl) (by decide) ?_
 refine VD.to (fun _ _ h => h) ?_
 refine VC.keep [1, 2, 3, 4, 5, 8] rfl ?_
 refine Zq ?_
 refine VC.draw [(0, true), (1, true), (2, true), (3, false), (4, false), (5, true)] mixed (by kernel_rfl) (by kernel_rfl) (by kernel_rfl) ?_
 refine VD.q rfl (q_move rfl) (by decide) ?_
 refine VD.q rfl (q_fes gagg34 rfl rfl) (by decide) ?_
 refine VD.q rfl (q_move rfl) (by decide) ?_
 refine VD.one rfl ?_
 obtain ⟨y41_13, ey41_13, hS⟩ := bd_s hS
 refine VL.callF (index_Of_ct s13_1 ey41_13) rfl (by decide) ?_
 rintro q41_13_0 rfl
 try dsimp only
 refine VL.back (D' := [(1, .agg #[s15_3.val, .slice none 0 0, .slice none 0 0])]) (by kernel_rfl) (Pend.cons rfl (q_fes gagg34 rfl rfl) (Pend.nil)) ?_
 refine VD.one rfl ?_
 obtain ⟨y42_14, ey42_14, hS⟩ := bd_s hS
 refine VL.callF (plan_Lost_ct s13_1 (⟨s15_3, ⟨none, 0, []⟩, ⟨none, 0, []⟩⟩ : TmergeResult) q41_13_0 ⟨none, 0, []⟩ ey42_14) rfl (by decide) ?_
 rintro q42_14_0 rfl
 try dsimp only
 refine VL.back (D' := []) (by kernel_rfl) (Pend.nil) ?_
 refine VD.q rfl (q_assign rfl) (by decide) ?_
 refine VD.to (fun _ _ h => h) ?_
 refine Zq (Zr ?_)
 refine Zm ?_
 refine Zm ?_
 obtain ⟨y46_15, ey46_15, hS⟩ := bd_s hS
 refine VL.callF (index_Of_ct s13_1 ey46_15) rfl (by decide) ?_
 rintro q46_15_0 rfl
 try dsimp only
 refine Zm ?_
 obtain ⟨y48_16, ey48_16, hS⟩ := bd_s hS
 refine VL.callF (plan_Force_ct s13_1 ⟨none, 0, []⟩ q46_15_0 s13_1 ey48_16) rfl (by decide) ?_
 rintro ⟨q48_16_0, q48_16_1⟩ rfl
 try dsimp only
 refine Zm ?_
 refine VL.q (q_extract rfl rfl) (by decide) ?_
 refine VL.q (q_extract rfl rfl) (by decide) ?_
 refine Za ?_
 refine Za ?_
 refine Zl ?_
 refine VC.keep [3, 4, 5, 8, 9, 10, 11] rfl ?_
 refine Zq (Zr ?_)
 refine Zm ?_
 refine VL.q (q_ereq Tryz.underlying27 rfl) (by decide) ?_
 refine Zm ?_
 refine VL.split_dec 53 rfl (fun h53 => ?_) (fun h53 => ?_)
 ·
  replace hS := it_t h53 hS
  refine Zg ?_
  refine VL.gy rfl rfl (q_erne Tryz.underlying27 rfl) (by decide) ?_
  refine Zt ?_
  refine Zm ?_
  refine VL.split_ndec 57 rfl (fun h57 => ?_) (fun h57 => ?_)
  ·
   replace hS := it_f h57 hS
   refine Zg ?_
   refine VL.gy rfl rfl (q_ln (s := q23_7_0) Tryz.underlying29 rfl) (by decide) ?_
   refine VL.gy rfl rfl (q_eql rfl rfl) (by decide) ?_
   refine Zt ?_
   refine Zm ?_
   refine VL.split_dec 62 rfl (fun h62 => ?_) (fun h62 => ?_)
   ·
    replace hS := it_t h62 hS
    refine Zg ?_
    obtain ⟨z64_17, nz64_17, hz64_17, hS⟩ := at_s hS
    refine VL.gy rfl rfl (q_ixm (s := q23_7_0) Tryz.underlying29 gsz83 rfl rfl nz64_17 (lt_of_get nz64_17 hz64_17)) (by decide) ?_
    refine VL.gy rfl rfl (q_field gfa83_3 rfl) (by decide) ?_
    refine VL.gy rfl rfl (q_elf (s := q23_7_0) gone9 rfl hz64_17 rfl) (by decide) ?_
    refine VL.gy rfl rfl (q_seq rfl rfl) (by decide) ?_
    refine Zt ?_
    refine Zm ?_
    refine VL.split_dec 69 rfl (fun h69 => ?_) (fun h69 => ?_)
    ·
     replace hS := it_t h69 hS
     refine Zg ?_
     refine VL.gy rfl rfl (q_ln (s := q23_7_1) Tryz.underlying23 rfl) (by decide) ?_
     refine VL.gy rfl rfl (q_eql rfl rfl) (by decide) ?_
     refine Zt ?_
     refine Zm ?_
     refine VL.split_dec 74 rfl (fun h74 => ?_) (fun h74 => ?_)
     ·
      replace hS := it_t h74 hS
      refine Zg ?_
      obtain ⟨z76_18, nz76_18, hz76_18, hS⟩ := at_s hS
      refine VL.gy rfl rfl (q_ixm (s := q23_7_1) Tryz.underlying23 gsz50 rfl rfl nz76_18 (lt_of_get nz76_18 hz76_18)) (by decide) ?_
      refine VL.gy rfl rfl (q_field gfa50_2 rfl) (by decide) ?_
      refine VL.gy rfl rfl (q_elf (s := q23_7_1) gone9 rfl hz76_18 rfl) (by decide) ?_
      refine VL.gy rfl rfl (q_seq rfl rfl) (by decide) ?_
      refine Zt ?_
      refine Zm ?_
      refine VL.split_dec 81 rfl (fun h81 => ?_) (fun h81 => ?_)
      ·
       replace hS := it_t h81 hS
       refine Zg ?_
       refine VL.gy rfl rfl (q_ln (s := q42_14_0) Tryz.underlying32 rfl) (by decide) ?_
       refine VL.gy rfl rfl (q_eql rfl rfl) (by decide) ?_
       refine Zt ?_
       refine Zm ?_
       refine VL.split_dec 86 rfl (fun h86 => ?_) (fun h86 => ?_)
       ·
        replace hS := it_t h86 hS
        refine Zg ?_
        refine VL.gy rfl rfl (q_ln (s := q48_16_0) Tryz.underlying29 rfl) (by decide) ?_
        refine VL.gy rfl rfl (q_eql rfl rfl) (by decide) ?_
        refine Zt ?_
        refine Zm ?_
        refine VL.split_dec 91 rfl (fun h91 => ?_) (fun h91 => ?_)
        ·
         replace hS := it_t h91 hS
         refine Zg ?_
         refine VL.gy rfl rfl (q_ln (s := q48_16_1) Tryz.underlying23 rfl) (by decide) ?_
         refine VL.gy rfl rfl (q_eql rfl rfl) (by decide) ?_
         refine Zt ?_
         refine Za ?_
         refine Zl ?_
         refine VC.keep [0] rfl ?_
         cases hS
         exact Ze
        replace hS := it_f h91 hS
        refine Zn ?_
        refine Zn ?_
        refine Zn ?_
        refine Zf ?_
        refine Za ?_
        refine Zl ?_
        refine VC.keep [0] rfl ?_
        cases hS
        exact Ze
       replace hS := it_f h86 hS
       refine Zn ?_
       refine Zn ?_
       refine Zn ?_
       refine Zf ?_
       refine Zm ?_
       refine Zn ?_
       refine Zn ?_
       refine Zn ?_
       refine Zf ?_
       refine Za ?_
       refine Zl ?_
       refine VC.keep [0] rfl ?_
       cases hS
       exact Ze
      replace hS := it_f h81 hS
      refine Zn ?_
      refine Zn ?_
      refine Zn ?_
      refine Zf ?_
      refine Zm ?_
      refine Zn ?_
      refine Zn ?_
      refine Zn ?_
      refine Zf ?_
      refine Zm ?_
      refine Zn ?_
      refine Zn ?_
      refine Zn ?_
      refine Zf ?_
      refine Za ?_
      refine Zl ?_
      refine VC.keep [0] rfl ?_
      cases hS
      exact Ze
     replace hS := it_f h74 hS
     refine Zn ?_
     refine Zn ?_
     refine Zn ?_
     refine Zn ?_
     refine Zn ?_
     refine Zf ?_
     refine Zm ?_
     refine Zn ?_
     refine Zn ?_
     refine Zn ?_
     refine Zf ?_
     refine Zm ?_
     refine Zn ?_
     refine Zn ?_
     refine Zn ?_
     refine Zf ?_
     refine Zm ?_
     refine Zn ?_
     refine Zn ?_
     refine Zn ?_
     refine Zf ?_
     refine Za ?_
     refine Zl ?_
     refine VC.keep [0] rfl ?_
     cases hS
     exact Ze
    replace hS := it_f h69 hS
    refine Zn ?_
    refine Zn ?_
    refine Zn ?_
    refine Zf ?_
    refine Zm ?_
    refine Zn ?_
    refine Zn ?_
    refine Zn ?_
    refine Zn ?_
    refine Zn ?_
    refine Zf ?_
    refine Zm ?_
    refine Zn ?_
    refine Zn ?_
    refine Zn ?_
    refine Zf ?_
    refine Zm ?_
    refine Zn ?_
    refine Zn ?_
    refine Zn ?_
    refine Zf ?_
    refine Zm ?_
    refine Zn ?_
    refine Zn ?_
    refine Zn ?_
    refine Zf ?_
    refine Za ?_
    refine Zl ?_
    refine VC.keep [0] rfl ?_
    cases hS
    exact Ze
   replace hS := it_f h62 hS
   refine Zn ?_
   refine Zn ?_
   refine Zn ?_
   refine Zn ?_
   refine Zn ?_
   refine Zf ?_
   refine Zm ?_
   refine Zn ?_
   refine Zn ?_
   refine Zn ?_
   refine Zf ?_
   refine Zm ?_
   refine Zn ?_
   refine Zn ?_
   refine Zn ?_
   refine Zn ?_
   refine Zn ?_
   refine Zf ?_
   refine Zm ?_
   refine Zn ?_
   refine Zn ?_
   refine Zn ?_
   refine Zf ?_
   refine Zm ?_
   refine Zn ?_
   refine Zn ?_
   refine Zn ?_
   refine Zf ?_
   refine Zm ?_
   refine Zn ?_
   refine Zn ?_
   refine Zn ?_
   refine Zf ?_
   refine Za ?_
   refine Zl ?_
   refine VC.keep [0] rfl ?_
   cases hS
   exact Ze
  replace hS := it_t h57 hS
  refine Zn ?_
  refine Zn ?_
  refine Zn ?_
  refine Zf ?_
  refine Zm ?_
  refine Zn ?_
  refine Zn ?_
  refine Zn ?_
  refine Zn ?_
  refine Zn ?_
  refine Zf ?_
  refine Zm ?_
  refine Zn ?_
  refine Zn ?_
  refine Zn ?_
  refine Zf ?_
  refine Zm ?_
  refine Zn ?_
  refine Zn ?_
  refine Zn ?_
  refine Zn ?_
  refine Zn ?_
  refine Zf ?_
  refine Zm ?_
  refine Zn ?_
  refine Zn ?_
  refine Zn ?_
  refine Zf ?_
  refine Zm ?_
  refine Zn ?_
  refine Zn ?_
  refine Zn ?_
  refine Zf ?_
  refine Zm ?_
  refine Zn ?_
  refine Zn ?_
  refine Zn ?_
  refine Zf ?_
  refine Za ?_
  refine Zl ?_
  refine VC.keep [0] rfl ?_
  cases hS
  exact Ze
 replace hS := it_f h53 hS
 refine Zn ?_
 refine Zn ?_
 refine Zf ?_
 refine Zm ?_
 refine Zn ?_
 refine Zn ?_
 refine Zn ?_
 refine Zf ?_
 refine Zm ?_
 refine Zn ?_
 refine Zn ?_
 refine Zn ?_
 refine Zn ?_
 refine Zn ?_
 refine Zf ?_
 refine Zm ?_
 refine Zn ?_
 refine Zn ?_
 refine Zn ?_
 refine Zf ?_
 refine Zm ?_
 refine Zn ?_
 refine Zn ?_
 refine Zn ?_
 refine Zn ?_
 refine Zn ?_
 refine Zf ?_
 refine Zm ?_
 refine Zn ?_
 refine Zn ?_
 refine Zn ?_
 refine Zf ?_
 refine Zm ?_
 refine Zn ?_
 refine Zn ?_
 refine Zn ?_
 refine Zf ?_
 refine Zm ?_
 refine Zn ?_
 refine Zn ?_
 refine Zn ?_
 refine Zf ?_
 refine Za ?_
 refine Zl ?_
 refine VC.keep [0] rfl ?_
 cases hS
 exact Ze
theorem rectolaw14_Few_ct (r_0 : Sv FilesFile) {r : Bool} (hS : Sh.rectolaw14_Few r_0.l = some r) :
 Ct Tryz.prog 12 [r_0.val] r_0.ok (Ow.emp) (X := Unit) (fun _ => .bool r) (fun _ => True) (fun _ => Mo.tt) (fun _ => Ow.emp) := by
 refine Ct.of Tryz.func12 rfl (by kernel_rfl) Tryz.ntmps12 (by simp) fun c => ?_
 unfold Sh.rectolaw14_Few at hS
 refine Zq (Zr ?_)
 refine Za ?_
 refine Zl ?_
 refine Zq (Zq (Zr ?_))
 refine Zm ?_
 refine VL.q (q_ln (s := r_0) Tryz.underlying23 rfl) (by decide) ?_
 refine VL.q (q_gtr rfl rfl) (by decide) ?_
 refine Zl ?_
 refine VC.cond_dec rfl (fun h6 => ?_) (fun h6 => ?_)
 ·
  replace hS := it_t h6 hS
  refine Zq (Zr ?_)
  refine Za ?_
  refine Zl ?_
  cases hS
  exact Ze
 replace hS := it_f h6 hS
 refine Zk ?_
 refine Zq (Zq (Zr ?_))
 refine Za ?_
 refine Zl ?_
 refine Zb ?_
 refine VC.iter (S := Int) (fun (i3_1 : Int) => i3_1) (fun (i3_1 : Int) => [(0, r_0.val), (3, i64 i3_1)]) (fun (i3_1 : Int) => Mo.tt) (fun (i3_1 : Int) => Ow.emp) 0 [0, 3] hS rfl ?_
 clear hS
 rintro i3_1 m1 y1 hS hK1
 show VC _ _ _ _ _ [(0, r_0.val), (3, i64 i3_1)] (Mo.and Mo.tt _) (Ow.emp)
 refine Zq (Zq (Zr ?_))
 refine Zm ?_
 refine Zm ?_
 refine VL.q (q_ln (s := r_0) Tryz.underlying23 rfl) (by decide) ?_
 refine VL.q (q_lss rfl rfl) (by decide) ?_
 refine Zl ?_
 refine VC.cond_dec rfl (fun h10 => ?_) (fun h10 => ?_)
 ·
  replace hS := it_t h10 hS
  refine Zk ?_
  refine Zq (Zb ?_)
  refine VC.cutJ (S := Bool) (fun (x28_2 : Bool) => x28_2) (fun (x28_2 : Bool) => [(0, r_0.val), (3, i64 i3_1), (28, .bool x28_2)]) (fun (x28_2 : Bool) => Mo.tt) (fun (x28_2 : Bool) => Ow.emp) hS ?_ ?_
  ·
   clear hS
   intro k3 hS
   refine Zr ?_
   refine Zm ?_
   refine Zm ?_
   obtain ⟨z15_4, nz15_4, hz15_4, hS⟩ := at_s hS
   refine VL.q (q_ixm (s := r_0) Tryz.underlying23 gsz50 rfl rfl nz15_4 (lt_of_get nz15_4 hz15_4)) (by decide) ?_
   refine VL.q (q_field gfa50_0 rfl) (by decide) ?_
   refine VL.q (q_elf (s := r_0) gone9 rfl hz15_4 rfl) (by decide) ?_
   refine VL.q (q_slen Tryz.underlying9 rfl) (by decide) ?_
   refine VL.q (q_gtr rfl rfl) (by decide) ?_
   refine Zm ?_
   refine VL.split_dec 20 rfl (fun h20 => ?_) (fun h20 => ?_)
   ·
    replace hS := it_t h20 hS
    refine Zn ?_
    refine Zn ?_
    refine Zn ?_
    refine Zn ?_
    refine Zn ?_
    refine Zn ?_
    refine Zn ?_
    refine Zt ?_
    refine VL.mt true [0, 3, 28] (fun _ _ h => h) hS rfl
   replace hS := it_f h20 hS
   refine Zg ?_
   refine Zg ?_
   obtain ⟨z23_5, nz23_5, hz23_5, hS⟩ := at_s hS
   refine VL.gy rfl rfl (q_ixm (s := r_0) Tryz.underlying23 gsz50 rfl rfl nz23_5 (lt_of_get nz23_5 hz23_5)) (by decide) ?_
   refine VL.gy rfl rfl (q_field gfa50_2 rfl) (by decide) ?_
   refine VL.gy rfl rfl (q_elf (s := r_0) gone9 rfl hz23_5 rfl) (by decide) ?_
   refine VL.gy rfl rfl (q_slen Tryz.underlying9 rfl) (by decide) ?_
   refine VL.gy rfl rfl (q_gtr rfl rfl) (by decide) ?_
   refine Zf ?_
   refine VL.mt (decide (5000 < (z23_5.data.length : Int))) [0, 3, 28] (fun _ _ h => h) hS rfl
  clear hS
  rintro x28_2 hS
  show VC _ _ _ _ _ [(0, r_0.val), (3, i64 i3_1), (28, .bool x28_2)] (Mo.and Mo.tt _) (Ow.emp)
  refine VC.cond rfl (fun h28 => ?_) (fun h28 => ?_)
  ·
   replace hS := it_t h28 hS
   refine Zq (Zr ?_)
   refine Za ?_
   refine Zl ?_
   replace hS := up2 hS hK1
   cases hS
   exact Ze
  replace hS := it_b h28 hS
  refine Zk ?_
  refine Zr ?_
  refine Zm ?_
  obtain ⟨b12, hS⟩ := gd_s hS
  refine VL.q (q_add rfl rfl b12) (by decide) ?_
  refine Za ?_
  refine VL.rnd (i3_1 + 1) [0, 3] (fun _ _ h => h) (go2 hS hK1) rfl
 replace hS := it_f h10 hS
 replace hS := up2 hS hK1
 refine Zx ?_
 refine Zq (Zr ?_)
 refine Za ?_
 refine Zl ?_
 cases hS
 exact Ze
theorem rectolaw15_Few_ct (l_0 : Sv IndexEntry) {r : Bool} (hS : Sh.rectolaw15_Few l_0.l = some r) :
 Ct Tryz.prog 76 [l_0.val] l_0.ok (Ow.emp) (X := Unit) (fun _ => .bool r) (fun _ => True) (fun _ => Mo.tt) (fun _ => Ow.emp) := by
 refine Ct.of Tryz.func76 rfl (by kernel_rfl) Tryz.ntmps76 (by simp) fun c => ?_
 unfold Sh.rectolaw15_Few at hS
 refine Zq (Zr ?_)
 refine Za ?_
 refine Zl ?_
 refine Zq (Zq (Zr ?_))
 refine Zm ?_
 refine VL.q (q_ln (s := l_0) Tryz.underlying29 rfl) (by decide) ?_
 refine VL.q (q_gtr rfl rfl) (by decide) ?_
 refine Zl ?_
 refine VC.cond_dec rfl (fun h6 => ?_) (fun h6 => ?_)
 ·
  replace hS := it_t h6 hS
  refine Zq (Zr ?_)
  refine Za ?_
  refine Zl ?_
  cases hS
  exact Ze
 replace hS := it_f h6 hS
 refine Zk ?_
 refine Zq (Zq (Zr ?_))
 refine Za ?_
 refine Zl ?_
 refine Zb ?_
 refine VC.iter (S := Int) (fun (i3_1 : Int) => i3_1) (fun (i3_1 : Int) => [(0, l_0.val), (3, i64 i3_1)]) (fun (i3_1 : Int) => Mo.tt) (fun (i3_1 : Int) => Ow.emp) 0 [0, 3] hS rfl ?_
 clear hS
 rintro i3_1 m1 y1 hS hK1
 show VC _ _ _ _ _ [(0, l_0.val), (3, i64 i3_1)] (Mo.and Mo.tt _) (Ow.emp)
 refine Zq (Zq (Zr ?_))
 refine Zm ?_
 refine Zm ?_
 refine VL.q (q_ln (s := l_0) Tryz.underlying29 rfl) (by decide) ?_
 refine VL.q (q_lss rfl rfl) (by decide) ?_
 refine Zl ?_
 refine VC.cond_dec rfl (fun h10 => ?_) (fun h10 => ?_)
 ·
  replace hS := it_t h10 hS
  refine Zk ?_
  refine Zq (Zb ?_)
  refine VC.cutJ (S := Bool) (fun (x28_2 : Bool) => x28_2) (fun (x28_2 : Bool) => [(0, l_0.val), (3, i64 i3_1), (28, .bool x28_2)]) (fun (x28_2 : Bool) => Mo.tt) (fun (x28_2 : Bool) => Ow.emp) hS ?_ ?_
  ·
   clear hS
   intro k3 hS
   refine Zr ?_
   refine Zm ?_
   refine Zm ?_
   obtain ⟨z15_4, nz15_4, hz15_4, hS⟩ := at_s hS
   refine VL.q (q_ixm (s := l_0) Tryz.underlying29 gsz83 rfl rfl nz15_4 (lt_of_get nz15_4 hz15_4)) (by decide) ?_
   refine VL.q (q_field gfa83_0 rfl) (by decide) ?_
   refine VL.q (q_elf (s := l_0) gone9 rfl hz15_4 rfl) (by decide) ?_
   refine VL.q (q_slen Tryz.underlying9 rfl) (by decide) ?_
   refine VL.q (q_gtr rfl rfl) (by decide) ?_
   refine Zm ?_
   refine VL.split_dec 20 rfl (fun h20 => ?_) (fun h20 => ?_)
   ·
    replace hS := it_t h20 hS
    refine Zn ?_
    refine Zn ?_
    refine Zn ?_
    refine Zn ?_
    refine Zn ?_
    refine Zn ?_
    refine Zn ?_
    refine Zt ?_
    refine VL.mt true [0, 3, 28] (fun _ _ h => h) hS rfl
   replace hS := it_f h20 hS
   refine Zg ?_
   refine Zg ?_
   obtain ⟨z23_5, nz23_5, hz23_5, hS⟩ := at_s hS
   refine VL.gy rfl rfl (q_ixm (s := l_0) Tryz.underlying29 gsz83 rfl rfl nz23_5 (lt_of_get nz23_5 hz23_5)) (by decide) ?_
   refine VL.gy rfl rfl (q_field gfa83_3 rfl) (by decide) ?_
   refine VL.gy rfl rfl (q_elf (s := l_0) gone9 rfl hz23_5 rfl) (by decide) ?_
   refine VL.gy rfl rfl (q_slen Tryz.underlying9 rfl) (by decide) ?_
   refine VL.gy rfl rfl (q_gtr rfl rfl) (by decide) ?_
   refine Zf ?_
   refine VL.mt (decide (5000 < (z23_5.data.length : Int))) [0, 3, 28] (fun _ _ h => h) hS rfl
  clear hS
  rintro x28_2 hS
  show VC _ _ _ _ _ [(0, l_0.val), (3, i64 i3_1), (28, .bool x28_2)] (Mo.and Mo.tt _) (Ow.emp)
  refine VC.cond rfl (fun h28 => ?_) (fun h28 => ?_)
  ·
   replace hS := it_t h28 hS
   refine Zq (Zr ?_)
   refine Za ?_
   refine Zl ?_
   replace hS := up2 hS hK1
   cases hS
   exact Ze
  replace hS := it_b h28 hS
  refine Zk ?_
  refine Zr ?_
  refine Zm ?_
  obtain ⟨b12, hS⟩ := gd_s hS
  refine VL.q (q_add rfl rfl b12) (by decide) ?_
  refine Za ?_
  refine VL.rnd (i3_1 + 1) [0, 3] (fun _ _ h => h) (go2 hS hK1) rfl
 replace hS := it_f h10 hS
 replace hS := up2 hS hK1
 refine Zx ?_
 refine Zq (Zr ?_)
 refine Za ?_
 refine Zl ?_
 cases hS
 exact Ze
theorem unicode_utf8_RuneCountInString_ct (s_0 : Str) {r : Int} (hS : Sh.unicode_utf8_RuneCountInString s_0 = some r) :
 Ct Tryz.prog 358 [str s_0] Mo.tt (Ow.emp) (X := Unit) (fun _ => i64 r) (fun _ => True) (fun _ => Mo.tt) (fun _ => Ow.emp) := by
 refine Ct.of Tryz.func358 rfl (by kernel_rfl) Tryz.ntmps358 (by simp) fun c => ?_
 unfold Sh.unicode_utf8_RuneCountInString at hS
 refine Zq (Zr ?_)
 refine Za ?_
 refine Zl ?_
 refine Zq (Zq (Zr ?_))
 refine Zm ?_
 cases hS
theorem unicode_utf8_decodeRuneInStringSlow_ct (s_0 : Str) {r : Int × Int} (hS : Sh.unicode_utf8_decodeRuneInStringSlow s_0 = some r) :
 Ct Tryz.prog 360 [str s_0] Mo.tt (Ow.emp) (X := Unit) (fun _ => .tuple #[.int .i32 r.1, i64 r.2]) (fun _ => True) (fun _ => Mo.tt) (fun _ => Ow.emp) := by
 refine Ct.of Tryz.func360 rfl (by kernel_rfl) Tryz.ntmps360 (by simp) fun c => ?_
 unfold Sh.unicode_utf8_decodeRuneInStringSlow at hS
 refine Zq (Zr ?_)
 refine Za ?_
 refine Za ?_
 refine Zl ?_
 refine Zq (Zr ?_)
 refine Zm ?_
 refine VL.q (q_slen Tryz.underlying9 rfl) (by decide) ?_
 refine Za ?_
 refine Zl ?_
 refine Zq (Zq (Zr ?_))
 refine Zm ?_
 refine VL.q (q_lss rfl rfl) (by decide) ?_
 refine Zl ?_
 refine VC.cond_dec rfl (fun h16 => ?_) (fun h16 => ?_)
 ·
  replace hS := it_t h16 hS
  refine Zq (Zr ?_)
  refine Za ?_
  refine Za ?_
  refine Zl ?_
  cases hS
  exact VC.ret (fin2 (.inr rfl) rfl rfl rfl () rfl trivial (fun _ _ => trivial) (fun _ _ => trivial))
 replace hS := it_f h16 hS
 refine Zk ?_
 refine Zq (Zr ?_)
 refine Zm ?_
 obtain ⟨z18_1, nz18_1, hz18_1, hS⟩ := at_s hS
 refine VL.q (q_sidx Tryz.underlying9 rfl rfl nz18_1 hz18_1) (by decide) ?_
 refine Za ?_
 refine Zl ?_
 refine VC.keep [0, 4, 5] rfl ?_
 refine Zq (Zr ?_)
 refine Zm ?_
 cases hS
theorem unicode_utf8_DecodeRuneInString_ct (s_0 : Str) {r : Int × Int} (hS : Sh.unicode_utf8_DecodeRuneInString s_0 = some r) :
 Ct Tryz.prog 321 [str s_0] Mo.tt (Ow.emp) (X := Unit) (fun _ => .tuple #[.int .i32 r.1, i64 r.2]) (fun _ => True) (fun _ => Mo.tt) (fun _ => Ow.emp) := by
 refine Ct.of Tryz.func321 rfl (by kernel_rfl) Tryz.ntmps321 (by simp) fun c => ?_
 unfold Sh.unicode_utf8_DecodeRuneInString at hS
 refine Zq (Zr ?_)
 refine Za ?_
 refine Za ?_
 refine Zl ?_
 refine Zq ?_
 refine VC.cutJ (S := Bool) (fun (x10_1 : Bool) => x10_1) (fun (x10_1 : Bool) => [(0, str s_0), (10, .bool x10_1)]) (fun (x10_1 : Bool) => Mo.tt) (fun (x10_1 : Bool) => Ow.emp) hS ?_ ?_
 ·
  clear hS
  intro k2 hS
  refine Zr ?_
  refine Zm ?_
  refine VL.q (q_sne rfl rfl) (by decide) ?_
  refine Zm ?_
  refine VL.split_ndec 6 rfl (fun h6 => ?_) (fun h6 => ?_)
  ·
   replace hS := it_f h6 hS
   refine Zg ?_
   obtain ⟨z8_3, nz8_3, hz8_3, hS⟩ := at_s hS
   refine VL.gy rfl rfl (q_sidx Tryz.underlying9 rfl rfl nz8_3 hz8_3) (by decide) ?_
   refine VL.gy rfl rfl (q_lss rfl rfl) (by decide) ?_
   refine Zt ?_
   refine VL.mt (decide ((z8_3.toNat : Int) < 128)) [0, 10] (fun _ _ h => h) hS rfl
  replace hS := it_t h6 hS
  refine Zn ?_
  refine Zn ?_
  refine Zn ?_
  refine Zf ?_
  refine VL.mt false [0, 10] (fun _ _ h => h) hS rfl
 clear hS
 rintro x10_1 hS
 show VC _ _ _ _ _ [(0, str s_0), (10, .bool x10_1)] (Mo.and Mo.tt _) (Ow.emp)
 refine VC.cond rfl (fun h10 => ?_) (fun h10 => ?_)
 ·
  replace hS := it_t h10 hS
  refine Zq (Zr ?_)
  refine Zm ?_
  obtain ⟨z12_4, nz12_4, hz12_4, hS⟩ := at_s hS
  refine VL.q (q_sidx Tryz.underlying9 rfl rfl nz12_4 hz12_4) (by decide) ?_
  refine VL.q (q_conv Tryz.underlying5 Tryz.underlying21 rfl (wr_i32 z12_4)) (by decide) ?_
  refine Za ?_
  refine Za ?_
  refine Zl ?_
  cases hS
  exact VC.ret (fin2 (.inr rfl) rfl rfl rfl () rfl trivial (fun _ _ => trivial) (fun _ _ => trivial))
 replace hS := it_b h10 hS
 refine Zr ?_
 refine Zm ?_
 obtain ⟨y16_5, ey16_5, hS⟩ := bd_s hS
 refine VL.q (q_call (unicode_utf8_decodeRuneInStringSlow_ct s_0 ey16_5) rfl (fun _ _ => rfl)) (by decide) ?_
 refine Zm ?_
 refine VL.q (q_extract rfl rfl) (by decide) ?_
 refine VL.q (q_extract rfl rfl) (by decide) ?_
 refine Za ?_
 refine Za ?_
 refine Zl ?_
 cases hS
 exact VC.ret (fin2 (.inr rfl) rfl rfl rfl () rfl trivial (fun _ _ => trivial) (fun _ _ => trivial))
theorem strings_explode_ct (s_0 : Str) (n_1 : Int) {r : List Str} (hS : Sh.strings_explode s_0 n_1 = some r) :
 Ct Tryz.prog 318 [str s_0, i64 n_1] Mo.tt (Ow.emp) (X := Sv Str) (fun x => x.val) (fun x => r = x.l) (fun x => Mo.tt) (fun x => Sv.own x 9) := by
 refine Ct.of Tryz.func318 rfl (by kernel_rfl) Tryz.ntmps318 (by simp) fun c => ?_
 unfold Sh.strings_explode at hS
 refine Zq (Zr ?_)
 refine Za ?_
 refine Zl ?_
 refine Zq (Zr ?_)
 refine Zm ?_
 obtain ⟨y11_1, ey11_1, hS⟩ := bd_s hS
 refine VL.q (q_call (unicode_utf8_RuneCountInString_ct s_0 ey11_1) rfl (fun _ _ => rfl)) (by decide) ?_
 refine Za ?_
 refine Zl ?_
 refine VC.cutJ (S := Int) (fun (n1_2 : Int) => n1_2) (fun (n1_2 : Int) => [(0, str s_0), (1, i64 n1_2)]) (fun (n1_2 : Int) => Mo.tt) (fun (n1_2 : Int) => Ow.emp) hS ?_ ?_
 ·
  clear hS
  intro k3 hS
  refine VC.cutJ (S := Bool) (fun (x18_4 : Bool) => x18_4) (fun (x18_4 : Bool) => [(0, str s_0), (1, i64 n_1), (5, i64 y11_1), (18, .bool x18_4)]) (fun (x18_4 : Bool) => Mo.tt) (fun (x18_4 : Bool) => Ow.emp) hS ?_ ?_
  ·
   clear hS
   intro k5 hS
   refine Zr ?_
   refine Zm ?_
   refine VL.q (q_lss rfl rfl) (by decide) ?_
   refine Zm ?_
   refine VL.split_dec 14 rfl (fun h14 => ?_) (fun h14 => ?_)
   ·
    replace hS := it_t h14 hS
    refine Zn ?_
    refine Zn ?_
    refine Zn ?_
    refine Zt ?_
    refine VL.mt true [0, 1, 5, 18] (fun _ _ h => h) hS rfl
   replace hS := it_f h14 hS
   refine Zg ?_
   refine Zg ?_
   refine VL.gy rfl rfl (q_gtr rfl rfl) (by decide) ?_
   refine Zf ?_
   refine VL.mt (decide (y11_1 < n_1)) [0, 1, 5, 18] (fun _ _ h => h) hS rfl
  clear hS
  rintro x18_4 hS
  show VC _ _ _ _ _ [(0, str s_0), (1, i64 n_1), (5, i64 y11_1), (18, .bool x18_4)] (Mo.and Mo.tt _) (Ow.emp)
  refine VC.cond rfl (fun h18 => ?_) (fun h18 => ?_)
  ·
   replace hS := it_t h18 hS
   refine Zr ?_
   refine Zm ?_
   refine Za ?_
   refine VL.mt y11_1 [0, 1] (fun _ _ h => h) hS rfl
  replace hS := it_b h18 hS
  refine VC.skip_mt n_1 [0, 1] (fun _ _ h => h) hS rfl
 clear hS
 rintro n1_2 hS
 show VC _ _ _ _ _ [(0, str s_0), (1, i64 n1_2)] (Mo.and Mo.tt _) (Ow.emp)
 refine Zq (Zr ?_)
 refine Zm ?_
 obtain ⟨b21, hS⟩ := gd_s hS
 refine VL.make (α := Str) (z := []) Tryz.underlying32 gmk9 (by decide) rfl rfl b21.1 (Int.le_refl _) (by omega) (by omega) (by decide) (fun s21_6 hs21_6 => ?_)
 replace hS := lt_to hs21_6 hS
 refine Za ?_
 refine Zl ?_
 refine Zq (Zq (Zr ?_))
 refine Za ?_
 refine Zl ?_
 refine Zb ?_
 refine VC.iter (S := Str × Sv Str × Int) (fun sg => (sg.1, sg.2.1.l, sg.2.2)) (fun sg => [(0, str sg.1), (1, i64 n1_2), (6, sg.2.1.val), (7, i64 sg.2.2)]) (fun sg => Mo.tt) (fun sg => Ow.star (Sv.own sg.2.1 9) (Ow.emp)) (s_0, s21_6, 0) [0, 1, 6, 7] hS rfl ?_
 clear hS
 rintro ⟨s0_8, a6_9, i7_10⟩ m1 y1 hS hK1
 show VC _ _ _ _ _ [(0, str s0_8), (1, i64 n1_2), (6, a6_9.val), (7, i64 i7_10)] (Mo.and Mo.tt _) (Ow.star (Sv.own a6_9 9) (Ow.emp))
 refine Zq (Zq (Zr ?_))
 refine Zm ?_
 refine Zm ?_
 obtain ⟨b24, hS⟩ := gd_s hS
 refine VL.q (q_sub rfl rfl b24) (by decide) ?_
 refine VL.q (q_lss rfl rfl) (by decide) ?_
 refine Zl ?_
 refine VC.cond_dec rfl (fun h25 => ?_) (fun h25 => ?_)
 ·
  replace hS := it_t h25 hS
  refine Zk ?_
  refine Zq (Zb (Zq (Zr ?_)))
  refine Zm ?_
  obtain ⟨y30_11, ey30_11, hS⟩ := bd_s hS
  refine VL.q (q_call (unicode_utf8_DecodeRuneInString_ct s0_8 ey30_11) rfl (fun _ _ => rfl)) (by decide) ?_
  refine Zm ?_
  refine VL.q (q_extract rfl rfl) (by decide) ?_
  refine VL.q (q_extract rfl rfl) (by decide) ?_
  refine Za ?_
  refine Za ?_
  refine Zl ?_
  refine VC.keep [0, 1, 6, 7, 9] rfl ?_
  refine Zq (Zr ?_)
  refine Zm ?_
  refine Zm ?_
  refine Zm ?_
  refine Zm ?_
  obtain ⟨b37, hS⟩ := gd_s hS
  obtain ⟨y37_12, ey37_12, hS⟩ := lt_s hS
  refine VL.q (q_stoE Tryz.underlying9 rfl rfl b37.1 b37.2 ey37_12) (by decide) ?_
  obtain ⟨z38_13, nz38_13, hz38_13, hS⟩ := at_s hS
  refine VL.q (q_ixo (s := a6_9) Tryz.underlying32 gsz9 rfl rfl nz38_13 (lt_of_get nz38_13 hz38_13)) (by decide) ?_
  refine VL.storeE (s := a6_9) (T := 9) (j := 0) (vc := [str y37_12]) (y37_12 : Str) (by decide) rfl rfl hz38_13 rfl gsz9 rfl rfl (Nat.le_of_ble_eq_true rfl) rfl (fun w14 hw14 haw14 hcw14 hvw14 hbw14 how14 => ?_)
  rw [← hvw14]
  replace hS := lt_to hw14 hS
  refine Zl ?_
  refine Zr ?_
  refine Zm ?_
  refine Zm ?_
  obtain ⟨b41, hS⟩ := gd_s hS
  obtain ⟨y41_16, ey41_16, hS⟩ := lt_s hS
  refine VL.q (q_sfromE Tryz.underlying9 rfl rfl b41.1 b41.2 ey41_16) (by decide) ?_
  refine Za ?_
  refine Zl ?_
  refine VC.keep [0, 1, 6, 7] rfl ?_
  refine Zr ?_
  refine Zm ?_
  obtain ⟨b27, hS⟩ := gd_s hS
  refine VL.q (q_add rfl rfl b27) (by decide) ?_
  refine Za ?_
  refine VL.rnd (y41_16, w14, (i7_10 + 1)) [0, 1, 6, 7] (fun _ _ h => h) (go2 hS hK1) rfl
 replace hS := it_f h25 hS
 replace hS := up2 hS hK1
 refine Zx ?_
 refine Zq (Zq (Zr ?_))
 refine Zm ?_
 refine VL.q (q_gtr rfl rfl) (by decide) ?_
 refine Zl ?_
 refine VC.cond_dec rfl (fun h43 => ?_) (fun h43 => ?_)
 ·
  replace hS := it_t h43 hS
  refine Zr ?_
  refine Zm ?_
  refine Zm ?_
  obtain ⟨b46, hS⟩ := gd_s hS
  refine VL.q (q_sub rfl rfl b46) (by decide) ?_
  refine Zm ?_
  obtain ⟨z48_17, nz48_17, hz48_17, hS⟩ := at_s hS
  refine VL.q (q_ixo (s := a6_9) Tryz.underlying32 gsz9 rfl rfl nz48_17 (lt_of_get nz48_17 hz48_17)) (by decide) ?_
  refine VL.storeE (s := a6_9) (T := 9) (j := 0) (vc := [str s0_8]) (s0_8 : Str) (by decide) rfl rfl hz48_17 rfl gsz9 rfl rfl (Nat.le_of_ble_eq_true rfl) rfl (fun w18 hw18 haw18 hcw18 hvw18 hbw18 how18 => ?_)
  rw [← hvw18]
  replace hS := lt_to hw18 hS
  refine Zl ?_
  refine VC.keep [6] rfl ?_
  refine Zq (Zr ?_)
  refine Zm ?_
  refine Za ?_
  refine Zl ?_
  cases hS
  exact VC.ret (fin1 (.inr rfl) rfl rfl w18 rfl rfl (by (try dsimp only); exact InM.out) (by (try dsimp only); exact EntO.out))
 replace hS := it_f h43 hS
 refine Zk ?_
 refine Zq (Zr ?_)
 refine Zm ?_
 refine Za ?_
 refine Zl ?_
 refine VC.keep [4] rfl ?_
 cases hS
 exact VC.ret (fin1 (.inr rfl) rfl rfl a6_9 rfl rfl (by (try dsimp only); exact InM.out) (by (try dsimp only); exact EntO.out))
theorem internal_stringslite_IndexByte_ct (s_0 : Str) (c_1 : Int) {r : Int} (hS : Sh.internal_stringslite_IndexByte s_0 c_1 = some r) :
 Ct Tryz.prog 314 [str s_0, .int .u8 c_1] Mo.tt (Ow.emp) (X := Unit) (fun _ => i64 r) (fun _ => True) (fun _ => Mo.tt) (fun _ => Ow.emp) := by
 refine Ct.of Tryz.func314 rfl (by kernel_rfl) Tryz.ntmps314 (by simp) fun c => ?_
 unfold Sh.internal_stringslite_IndexByte at hS
 refine Zq (Zr ?_)
 refine Za ?_
 refine Zl ?_
 refine Zq (Zr ?_)
 refine Zm ?_
 refine Zm ?_
 refine VL.q (q_extern Tryz.func356 rfl rfl (by kernel_rfl) (by kernel_rfl) rfl (fun w => x_ixS s_0 c_1 w)) (by decide) ?_
 refine Za ?_
 refine Zl ?_
 cases hS
 exact Ze
theorem internal_stringslite_Index_ct (s_0 : Str) (substr_1 : Str) {r : Int} (hS : Sh.internal_stringslite_Index s_0 substr_1 = some r) :
 Ct Tryz.prog 264 [str s_0, str substr_1] Mo.tt (Ow.emp) (X := Unit) (fun _ => i64 r) (fun _ => True) (fun _ => Mo.tt) (fun _ => Ow.emp) := by
 refine Ct.of Tryz.func264 rfl (by kernel_rfl) Tryz.ntmps264 (by simp) fun c => ?_
 unfold Sh.internal_stringslite_Index at hS
 refine Zq (Zr ?_)
 refine Za ?_
 refine Zl ?_
 refine Zq (Zr ?_)
 refine Zm ?_
 refine VL.q (q_slen Tryz.underlying9 rfl) (by decide) ?_
 refine Za ?_
 refine Zl ?_
 refine Zq (Zb ?_)
 refine VC.cutJ (S := Bool) (fun (x16_1 : Bool) => x16_1) (fun (x16_1 : Bool) => [(0, str s_0), (1, str substr_1), (5, i64 (substr_1.length : Int)), (16, .bool x16_1)]) (fun (x16_1 : Bool) => Mo.tt) (fun (x16_1 : Bool) => Ow.emp) hS ?_ ?_
 ·
  clear hS
  intro k2 hS
  refine Zr ?_
  refine Zm ?_
  refine VL.q (q_eql rfl rfl) (by decide) ?_
  refine Zm ?_
  refine VL.split_dec 19 rfl (fun h19 => ?_) (fun h19 => ?_)
  ·
   replace hS := it_t h19 hS
   refine Zn ?_
   refine Zn ?_
   refine Zn ?_
   refine Zt ?_
   refine Za ?_
   refine VL.mt true [0, 1, 5, 16] (fun _ _ h => h) hS rfl
  replace hS := it_f h19 hS
  refine Zg ?_
  refine Zg ?_
  refine VL.gy rfl rfl (q_seq rfl rfl) (by decide) ?_
  refine Zf ?_
  refine Za ?_
  refine VL.mt (decide (substr_1 = s_0)) [0, 1, 5, 16] (fun _ _ h => h) hS rfl
 clear hS
 rintro x16_1 hS
 show VC _ _ _ _ _ [(0, str s_0), (1, str substr_1), (5, i64 (substr_1.length : Int)), (16, .bool x16_1)] (Mo.and Mo.tt _) (Ow.emp)
 refine VC.cond rfl (fun h16 => ?_) (fun h16 => ?_)
 ·
  replace hS := it_t h16 hS
  refine Zq (Zr ?_)
  refine Za ?_
  refine Zl ?_
  cases hS
  exact Ze
 replace hS := it_b h16 hS
 refine Zq (Zr ?_)
 refine Zm ?_
 refine VL.q (q_eql rfl rfl) (by decide) ?_
 refine Za ?_
 refine Zl ?_
 refine VC.cond_dec rfl (fun h24 => ?_) (fun h24 => ?_)
 ·
  replace hS := it_t h24 hS
  refine Zq (Zr ?_)
  refine Zm ?_
  refine Zm ?_
  obtain ⟨z29_3, nz29_3, hz29_3, hS⟩ := at_s hS
  refine VL.q (q_sidx Tryz.underlying9 rfl rfl nz29_3 hz29_3) (by decide) ?_
  obtain ⟨y30_4, ey30_4, hS⟩ := bd_s hS
  refine VL.q (q_call (internal_stringslite_IndexByte_ct s_0 (z29_3.toNat : Int) ey30_4) rfl (fun _ _ => rfl)) (by decide) ?_
  refine Za ?_
  refine Zl ?_
  refine VC.keep [4] rfl ?_
  cases hS
  exact Ze
 replace hS := it_f h24 hS
 refine Zq (Zr ?_)
 refine Zm ?_
 refine Zm ?_
 refine VL.q (q_slen Tryz.underlying9 rfl) (by decide) ?_
 refine VL.q (q_geq rfl rfl) (by decide) ?_
 refine Za ?_
 refine Zl ?_
 refine VC.keep [0, 1, 5, 31] rfl ?_
 refine VC.cond_dec rfl (fun h31 => ?_) (fun h31 => ?_)
 ·
  replace hS := it_t h31 hS
  refine Zq (Zr ?_)
  refine Za ?_
  refine Zl ?_
  cases hS
  exact Ze
 replace hS := it_f h31 hS
 refine Zq (Zr ?_)
 refine Zm ?_
 cases hS
theorem strings_Index_ct (s_0 : Str) (substr_1 : Str) {r : Int} (hS : Sh.strings_Index s_0 substr_1 = some r) :
 Ct Tryz.prog 307 [str s_0, str substr_1] Mo.tt (Ow.emp) (X := Unit) (fun _ => i64 r) (fun _ => True) (fun _ => Mo.tt) (fun _ => Ow.emp) := by
 refine Ct.of Tryz.func307 rfl (by kernel_rfl) Tryz.ntmps307 (by simp) fun c => ?_
 unfold Sh.strings_Index at hS
 refine Zq (Zr ?_)
 refine Za ?_
 refine Zl ?_
 refine Zq (Zr ?_)
 refine Zm ?_
 refine Zm ?_
 obtain ⟨y7_1, ey7_1, hS⟩ := bd_s hS
 refine VL.q (q_call (internal_stringslite_Index_ct s_0 substr_1 ey7_1) rfl (fun _ _ => rfl)) (by decide) ?_
 refine Za ?_
 refine Zl ?_
 cases hS
 exact Ze
theorem strings_Count_ct (s_0 : Str) (substr_1 : Str) {r : Int} (hS : Sh.strings_Count s_0 substr_1 = some r) :
 Ct Tryz.prog 319 [str s_0, str substr_1] Mo.tt (Ow.emp) (X := Unit) (fun _ => i64 r) (fun _ => True) (fun _ => Mo.tt) (fun _ => Ow.emp) := by
 refine Ct.of Tryz.func319 rfl (by kernel_rfl) Tryz.ntmps319 (by simp) fun c => ?_
 unfold Sh.strings_Count at hS
 refine Zq (Zr ?_)
 refine Za ?_
 refine Zl ?_
 refine Zq (Zq (Zr ?_))
 refine Zm ?_
 refine VL.q (q_slen Tryz.underlying9 rfl) (by decide) ?_
 refine VL.q (q_eql rfl rfl) (by decide) ?_
 refine Zl ?_
 refine VC.cond_dec rfl (fun h9 => ?_) (fun h9 => ?_)
 ·
  replace hS := it_t h9 hS
  refine Zq (Zr ?_)
  refine Zm ?_
  obtain ⟨y11_1, ey11_1, hS⟩ := bd_s hS
  refine VL.q (q_call (unicode_utf8_RuneCountInString_ct s_0 ey11_1) rfl (fun _ _ => rfl)) (by decide) ?_
  obtain ⟨b12, hS⟩ := gd_s hS
  refine VL.q (q_add rfl rfl b12) (by decide) ?_
  refine Za ?_
  refine Zl ?_
  cases hS
  exact Ze
 replace hS := it_f h9 hS
 refine Zk ?_
 refine Zq (Zq (Zr ?_))
 refine Zm ?_
 refine VL.q (q_slen Tryz.underlying9 rfl) (by decide) ?_
 refine VL.q (q_eql rfl rfl) (by decide) ?_
 refine Zl ?_
 refine VC.cond_dec rfl (fun h15 => ?_) (fun h15 => ?_)
 ·
  replace hS := it_t h15 hS
  refine Zq (Zr ?_)
  refine Zm ?_
  refine Zm ?_
  obtain ⟨z18_2, nz18_2, hz18_2, hS⟩ := at_s hS
  refine VL.q (q_sidx Tryz.underlying9 rfl rfl nz18_2 hz18_2) (by decide) ?_
  refine VL.q (q_extern Tryz.func359 rfl rfl (by kernel_rfl) (by kernel_rfl) rfl (fun w => x_cntS s_0 (z18_2.toNat : Int) w)) (by decide) ?_
  refine Za ?_
  refine Zl ?_
  refine VC.keep [4] rfl ?_
  cases hS
  exact Ze
 replace hS := it_f h15 hS
 refine Zk ?_
 refine Zq (Zr ?_)
 refine Za ?_
 refine Zl ?_
 refine Zb ?_
 refine VC.iter (S := Str × Int) (fun sg => (sg.1, sg.2)) (fun sg => [(0, str sg.1), (1, str substr_1), (5, i64 sg.2)]) (fun sg => Mo.tt) (fun sg => Ow.emp) (s_0, 0) [0, 1, 5] hS rfl ?_
 clear hS
 rintro ⟨s0_3, n5_4⟩ m1 y1 hS hK1
 show VC _ _ _ _ _ [(0, str s0_3), (1, str substr_1), (5, i64 n5_4)] (Mo.and Mo.tt _) (Ow.emp)
 refine Zb (Zq (Zr ?_))
 refine Zm ?_
 refine Zm ?_
 obtain ⟨y22_5, ey22_5, hS⟩ := bd_s hS
 refine VL.q (q_call (strings_Index_ct s0_3 substr_1 ey22_5) rfl (fun _ _ => rfl)) (by decide) ?_
 refine Za ?_
 refine Zl ?_
 refine Zq (Zq (Zr ?_))
 refine Zm ?_
 refine VL.q (q_eql rfl rfl) (by decide) ?_
 refine Zl ?_
 refine VC.cond_dec rfl (fun h24 => ?_) (fun h24 => ?_)
 ·
  replace hS := it_t h24 hS
  refine Zq (Zr ?_)
  refine Zm ?_
  refine Za ?_
  refine Zl ?_
  refine VC.keep [4] rfl ?_
  replace hS := up2 hS hK1
  cases hS
  exact Ze
 replace hS := it_f h24 hS
 refine Zk ?_
 refine Zq (Zr ?_)
 refine Zm ?_
 obtain ⟨b27, hS⟩ := gd_s hS
 refine VL.q (q_add rfl rfl b27) (by decide) ?_
 refine Za ?_
 refine Zl ?_
 refine VC.keep [0, 1, 5, 6] rfl ?_
 refine Zr ?_
 refine Zm ?_
 refine Zm ?_
 refine Zm ?_
 refine VL.q (q_slen Tryz.underlying9 rfl) (by decide) ?_
 obtain ⟨b32, hS⟩ := gd_s hS
 refine VL.q (q_add rfl rfl b32) (by decide) ?_
 obtain ⟨b33, hS⟩ := gd_s hS
 obtain ⟨y33_6, ey33_6, hS⟩ := lt_s hS
 refine VL.q (q_sfromE Tryz.underlying9 rfl rfl b33.1 b33.2 ey33_6) (by decide) ?_
 refine Za ?_
 refine VL.rnd (y33_6, (n5_4 + 1)) [0, 1, 5] (fun _ _ h => h) (go2 hS hK1) rfl
theorem strings_genSplit_ct (s_0 : Str) (sep_1 : Str) (sepSave_2 : Int) (n_3 : Int) {r : List Str} (hS : Sh.strings_genSplit s_0 sep_1 sepSave_2 n_3 = some r) :
 Ct Tryz.prog 265 [str s_0, str sep_1, i64 sepSave_2, i64 n_3] Mo.tt (Ow.emp) (X := Sv Str) (fun x => x.val) (fun x => r = x.l) (fun x => x.ok) (fun x => Ow.emp) := by
 refine Ct.of Tryz.func265 rfl (by kernel_rfl) Tryz.ntmps265 (by simp) fun c => ?_
 unfold Sh.strings_genSplit at hS
 refine Zq (Zr ?_)
 refine Za ?_
 refine Zl ?_
 refine Zq (Zq (Zr ?_))
 refine Zm ?_
 refine VL.q (q_eql rfl rfl) (by decide) ?_
 refine Zl ?_
 refine VC.cond_dec rfl (fun h13 => ?_) (fun h13 => ?_)
 ·
  replace hS := it_t h13 hS
  refine Zq (Zr ?_)
  refine Za ?_
  refine Zl ?_
  cases hS
  exact VC.ret (fin1 (.inr rfl) rfl rfl ⟨none, 0, []⟩ rfl rfl (by (try dsimp only); exact InM.out) (fun _ _ => trivial))
 replace hS := it_f h13 hS
 refine Zk ?_
 refine Zq (Zq (Zr ?_))
 refine Zm ?_
 refine Zs ?_
 refine Zl ?_
 refine VC.cond_dec rfl (fun h15 => ?_) (fun h15 => ?_)
 ·
  replace hS := it_t h15 hS
  refine Zq (Zr ?_)
  refine Zm ?_
  refine Zm ?_
  obtain ⟨y18_1, ey18_1, hS⟩ := bd_s hS
  refine VL.callO (strings_explode_ct s_0 n_3 ey18_1) rfl (by decide) ?_
  rintro q18_1_0 rfl
  try dsimp only
  refine Za ?_
  refine Zl ?_
  refine VC.keep [8] rfl ?_
  refine VC.shut q18_1_0 9 (fun _ _ _ _ => trivial) ?_
  cases hS
  exact VC.ret (fin1 (.inr rfl) rfl rfl q18_1_0 rfl rfl (by (try dsimp only); exact InM.out) (fun _ _ => trivial))
 replace hS := it_f h15 hS
 refine Zk ?_
 refine VC.cutJ (S := Int) (fun (n3_2 : Int) => n3_2) (fun (n3_2 : Int) => [(0, str s_0), (1, str sep_1), (2, i64 sepSave_2), (3, i64 n3_2)]) (fun (n3_2 : Int) => Mo.tt) (fun (n3_2 : Int) => Ow.emp) hS ?_ ?_
 ·
  clear hS
  intro k3 hS
  refine Zq (Zr ?_)
  refine Zm ?_
  refine VL.q (q_lss rfl rfl) (by decide) ?_
  refine Zl ?_
  refine VC.cond_dec rfl (fun h20 => ?_) (fun h20 => ?_)
  ·
   replace hS := it_t h20 hS
   refine Zr ?_
   refine Zm ?_
   refine Zm ?_
   obtain ⟨y23_4, ey23_4, hS⟩ := bd_s hS
   refine VL.q (q_call (strings_Count_ct s_0 sep_1 ey23_4) rfl (fun _ _ => rfl)) (by decide) ?_
   obtain ⟨b24, hS⟩ := gd_s hS
   refine VL.q (q_add rfl rfl b24) (by decide) ?_
   refine Za ?_
   refine VL.mt (y23_4 + 1) [0, 1, 2, 3] (fun _ _ h => h) hS rfl
  replace hS := it_f h20 hS
  refine VC.skip_mt n_3 [0, 1, 2, 3] (fun _ _ h => h) hS rfl
 clear hS
 rintro n3_2 hS
 show VC _ _ _ _ _ [(0, str s_0), (1, str sep_1), (2, i64 sepSave_2), (3, i64 n3_2)] (Mo.and Mo.tt _) (Ow.emp)
 refine Zq (Zr ?_)
 refine Zm ?_
 refine Zm ?_
 refine VL.q (q_slen Tryz.underlying9 rfl) (by decide) ?_
 obtain ⟨b28, hS⟩ := gd_s hS
 refine VL.q (q_add rfl rfl b28) (by decide) ?_
 refine VL.q (q_min rfl) (by decide) ?_
 refine Za ?_
 refine Zl ?_
 refine Zq (Zr ?_)
 refine Zm ?_
 obtain ⟨b31, hS⟩ := gd_s hS
 refine VL.make (α := Str) (z := []) Tryz.underlying32 gmk9 (by decide) rfl rfl b31.1 (Int.le_refl _) (by omega) (by omega) (by decide) (fun s31_5 hs31_5 => ?_)
 replace hS := lt_to hs31_5 hS
 refine Za ?_
 refine Zl ?_
 refine VC.keep [0, 1, 2, 3, 9] rfl ?_
 refine Zq (Zr ?_)
 refine Zm ?_
 obtain ⟨b33, hS⟩ := gd_s hS
 refine VL.q (q_sub rfl rfl b33) (by decide) ?_
 refine Za ?_
 refine Zl ?_
 refine Zq (Zr ?_)
 refine Za ?_
 refine Zl ?_
 refine VC.cutJ (S := Str × Sv Str × Int) (fun sg => (sg.1, sg.2.1.l, sg.2.2)) (fun sg => [(0, str sg.1), (9, sg.2.1.val), (10, i64 sg.2.2)]) (fun sg => Mo.tt) (fun sg => Ow.star (Sv.own sg.2.1 9) (Ow.emp)) hS ?_ ?_
 ·
  clear hS
  intro k10 hS
  refine Zb ?_
  refine VC.iter (S := Str × Sv Str × Int) (fun sg => (sg.1, sg.2.1.l, sg.2.2)) (fun sg => [(0, str sg.1), (1, str sep_1), (2, i64 sepSave_2), (3, i64 ((min n3_2 ((s_0.length : Int) + 1)) - 1)), (9, sg.2.1.val), (10, i64 sg.2.2)]) (fun sg => Mo.tt) (fun sg => Ow.star (Sv.own sg.2.1 9) (Ow.emp)) (s_0, s31_5, 0) [0, 1, 2, 3, 9, 10] hS rfl ?_
  clear hS
  rintro ⟨s0_11, a9_12, i10_13⟩ m1 y1 hS hK1
  show VC _ _ _ _ _ [(0, str s0_11), (1, str sep_1), (2, i64 sepSave_2), (3, i64 ((min n3_2 ((s_0.length : Int) + 1)) - 1)), (9, a9_12.val), (10, i64 i10_13)] (Mo.and Mo.tt _) (Ow.star (Sv.own a9_12 9) (Ow.emp))
  refine Zq (Zq (Zr ?_))
  refine Zm ?_
  refine Zm ?_
  refine VL.q (q_lss rfl rfl) (by decide) ?_
  refine Zl ?_
  refine VC.cond_dec rfl (fun h36 => ?_) (fun h36 => ?_)
  ·
   replace hS := it_t h36 hS
   refine Zk ?_
   refine Zb (Zq (Zr ?_))
   refine Zm ?_
   refine Zm ?_
   obtain ⟨y39_14, ey39_14, hS⟩ := bd_s hS
   refine VL.q (q_call (strings_Index_ct s0_11 sep_1 ey39_14) rfl (fun _ _ => rfl)) (by decide) ?_
   refine Za ?_
   refine Zl ?_
   refine Zq (Zq (Zr ?_))
   refine Zm ?_
   refine VL.q (q_lss rfl rfl) (by decide) ?_
   refine Zl ?_
   refine VC.keep [0, 1, 2, 3, 9, 10, 11, 41] rfl ?_
   refine VC.cond_dec rfl (fun h41 => ?_) (fun h41 => ?_)
   ·
    replace hS := it_t h41 hS
    replace hS := up2 hS hK1
    refine VC.exit_mt (s0_11, a9_12, i10_13) [0, 9, 10] (fun _ _ h => h) hS rfl
   replace hS := it_f h41 hS
   refine Zk ?_
   refine Zq (Zr ?_)
   refine Zm ?_
   refine Zm ?_
   refine Zm ?_
   refine Zm ?_
   refine Zm ?_
   obtain ⟨b47, hS⟩ := gd_s hS
   refine VL.q (q_add rfl rfl b47) (by decide) ?_
   obtain ⟨b48, hS⟩ := gd_s hS
   obtain ⟨y48_15, ey48_15, hS⟩ := lt_s hS
   refine VL.q (q_stoE Tryz.underlying9 rfl rfl b48.1 b48.2 ey48_15) (by decide) ?_
   obtain ⟨z49_16, nz49_16, hz49_16, hS⟩ := at_s hS
   refine VL.q (q_ixo (s := a9_12) Tryz.underlying32 gsz9 rfl rfl nz49_16 (lt_of_get nz49_16 hz49_16)) (by decide) ?_
   refine VL.storeE (s := a9_12) (T := 9) (j := 0) (vc := [str y48_15]) (y48_15 : Str) (by decide) rfl rfl hz49_16 rfl gsz9 rfl rfl (Nat.le_of_ble_eq_true rfl) rfl (fun w17 hw17 haw17 hcw17 hvw17 hbw17 how17 => ?_)
   rw [← hvw17]
   replace hS := lt_to hw17 hS
   refine Zl ?_
   refine VC.keep [0, 1, 2, 3, 9, 10, 11] rfl ?_
   refine Zq (Zr ?_)
   refine Zm ?_
   refine Zm ?_
   refine Zm ?_
   refine VL.q (q_slen Tryz.underlying9 rfl) (by decide) ?_
   obtain ⟨b54, hS⟩ := gd_s hS
   refine VL.q (q_add rfl rfl b54) (by decide) ?_
   obtain ⟨b55, hS⟩ := gd_s hS
   obtain ⟨y55_19, ey55_19, hS⟩ := lt_s hS
   refine VL.q (q_sfromE Tryz.underlying9 rfl rfl b55.1 b55.2 ey55_19) (by decide) ?_
   refine Za ?_
   refine Zl ?_
   refine VC.keep [0, 1, 2, 3, 9, 10] rfl ?_
   refine Zr ?_
   refine Zm ?_
   obtain ⟨b57, hS⟩ := gd_s hS
   refine VL.q (q_add rfl rfl b57) (by decide) ?_
   refine Za ?_
   refine VL.rnd (y55_19, w17, (i10_13 + 1)) [0, 1, 2, 3, 9, 10] (fun _ _ h => h) (go2 hS hK1) rfl
  replace hS := it_f h36 hS
  replace hS := up2 hS hK1
  refine VC.exit_mt (s0_11, a9_12, i10_13) [0, 9, 10] (fun _ _ h => h) hS rfl
 clear hS
 rintro ⟨s0_7, a9_8, i10_9⟩ hS
 show VC _ _ _ _ _ [(0, str s0_7), (9, a9_8.val), (10, i64 i10_9)] (Mo.and Mo.tt _) (Ow.star (Sv.own a9_8 9) (Ow.emp))
 refine Zq (Zr ?_)
 refine Zm ?_
 refine Zm ?_
 refine Zm ?_
 obtain ⟨z61_20, nz61_20, hz61_20, hS⟩ := at_s hS
 refine VL.q (q_ixo (s := a9_8) Tryz.underlying32 gsz9 rfl rfl nz61_20 (lt_of_get nz61_20 hz61_20)) (by decide) ?_
 refine VL.storeE (s := a9_8) (T := 9) (j := 0) (vc := [str s0_7]) (s0_7 : Str) (by decide) rfl rfl hz61_20 rfl gsz9 rfl rfl (Nat.le_of_ble_eq_true rfl) rfl (fun w21 hw21 haw21 hcw21 hvw21 hbw21 how21 => ?_)
 rw [← hvw21]
 replace hS := lt_to hw21 hS
 refine Zl ?_
 refine Zq (Zr ?_)
 refine Zm ?_
 refine Zm ?_
 obtain ⟨b64, hS⟩ := gd_s hS
 refine VL.q (q_add rfl rfl b64) (by decide) ?_
 refine VL.shut w21 9 (fun _ _ _ _ => trivial) ?_
 obtain ⟨b65, hS⟩ := gd_s hS
 refine VL.sto Tryz.underlying32 gsz9 rfl rfl b65.1 (b65.2) (by decide) fun s65_23 hs65_23 => ?_
 replace hS := lt_to hs65_23 hS
 refine Za ?_
 refine Zl ?_
 refine VC.keep [8] rfl ?_
 cases hS
 exact VC.ret (fin1 (.inr rfl) rfl rfl s65_23 rfl rfl (by (try dsimp only); exact InM.out) (fun _ _ => trivial))
theorem strings_Split_ct (s_0 : Str) (sep_1 : Str) {r : List Str} (hS : Sh.strings_Split s_0 sep_1 = some r) :
 Ct Tryz.prog 206 [str s_0, str sep_1] Mo.tt (Ow.emp) (X := Sv Str) (fun x => x.val) (fun x => r = x.l) (fun x => x.ok) (fun x => Ow.emp) := by
 refine Ct.of Tryz.func206 rfl (by kernel_rfl) Tryz.ntmps206 (by simp) fun c => ?_
 unfold Sh.strings_Split at hS
 refine Zq (Zr ?_)
 refine Za ?_
 refine Zl ?_
 refine Zq (Zr ?_)
 refine Zm ?_
 refine Zm ?_
 obtain ⟨y7_1, ey7_1, hS⟩ := bd_s hS
 refine VL.callF (strings_genSplit_ct s_0 sep_1 0 (-1) ey7_1) rfl (by decide) ?_
 rintro q7_1_0 rfl
 try dsimp only
 refine Za ?_
 refine Zl ?_
 cases hS
 exact VC.ret (fin1 (.inr rfl) rfl rfl q7_1_0 rfl rfl (by (try dsimp only); exact InM.out) (fun _ _ => trivial))
theorem path_good_ct (c_0 : Int) {r : Bool} (hS : Sh.path_good c_0 = some r) :
 Ct Tryz.prog 278 [.int .u8 c_0] Mo.tt (Ow.emp) (X := Unit) (fun _ => .bool r) (fun _ => True) (fun _ => Mo.tt) (fun _ => Ow.emp) := by
 refine Ct.of Tryz.func278 rfl (by kernel_rfl) Tryz.ntmps278 (by simp) fun c => ?_
 unfold Sh.path_good at hS
 refine Zq (Zr ?_)
 refine Za ?_
 refine Zl ?_
 refine VC.cutJ (S := Unit) (fun (_ : Unit) => ()) (fun (_ : Unit) => [(0, .int .u8 c_0)]) (fun (_ : Unit) => Mo.tt) (fun (_ : Unit) => Ow.emp) hS ?_ ?_
 ·
  clear hS
  intro k1 hS
  refine Zq (Zr ?_)
  refine Zm ?_
  refine Zl ?_
  refine Zb ?_
  refine VC.cutJ (S := Unit) (fun (_ : Unit) => ()) (fun (_ : Unit) => []) (fun (_ : Unit) => Mo.tt) (fun (_ : Unit) => Ow.emp) hS ?_ ?_
  ·
   clear hS
   intro k2 hS
   refine Zb (Zb (Zb (Zq (Zq (Zq (Zr ?_))))))
   refine VL.q (q_eql rfl rfl) (by decide) ?_
   refine Za ?_
   refine Zl ?_
   refine VC.cond_dec rfl (fun h4 => ?_) (fun h4 => ?_)
   ·
    replace hS := it_t h4 hS
    refine VC.exit_mt () [] (fun _ _ h => h) hS rfl
   replace hS := it_f h4 hS
   refine Zk ?_
   refine Zq (Zq (Zr ?_))
   refine VL.q (q_eql rfl rfl) (by decide) ?_
   refine Za ?_
   refine Zl ?_
   refine VC.cond_dec rfl (fun h6 => ?_) (fun h6 => ?_)
   ·
    replace hS := it_t h6 hS
    refine VC.exit_mt () [] (fun _ _ h => h) hS rfl
   replace hS := it_f h6 hS
   refine Zk ?_
   refine Zq (Zr ?_)
   refine VL.q (q_eql rfl rfl) (by decide) ?_
   refine Za ?_
   refine Zl ?_
   refine VC.cond_dec rfl (fun h8 => ?_) (fun h8 => ?_)
   ·
    replace hS := it_t h8 hS
    refine VC.exit_mt () [] (fun _ _ h => h) hS rfl
   replace hS := it_f h8 hS
   refine Zk ?_
   refine VC.exit_mt () [0] (fun _ _ h => h) hS rfl
  clear hS
  rintro _ hS
  show VC _ _ _ _ _ [] (Mo.and Mo.tt _) (Ow.emp)
  refine Zq (Zq (Zr ?_))
  refine Za ?_
  refine Zl ?_
  cases hS
  exact Ze
 clear hS
 rintro _ hS
 show VC _ _ _ _ _ [(0, .int .u8 c_0)] (Mo.and Mo.tt _) (Ow.emp)
 refine Zq (Zr ?_)
 refine Zm ?_
 refine VL.q (q_geq rfl rfl) (by decide) ?_
 refine Zm ?_
 refine VL.split_dec 12 rfl (fun h12 => ?_) (fun h12 => ?_)
 ·
  replace hS := it_t h12 hS
  refine Zg ?_
  refine VL.gy rfl rfl (q_leq rfl rfl) (by decide) ?_
  refine Zt ?_
  refine Zm ?_
  refine VL.split_dec 16 rfl (fun h16 => ?_) (fun h16 => ?_)
  ·
   replace hS := it_t h16 hS
   refine Zn ?_
   refine Zn ?_
   refine Zn ?_
   refine VL.gu rfl rfl (by decide) ?_
   refine VL.gu rfl rfl (by decide) ?_
   refine Zn ?_
   refine Zt ?_
   refine Za ?_
   refine Zl ?_
   refine VC.keep [2] rfl ?_
   cases hS
   exact Ze
  replace hS := it_f h16 hS
  refine Zg ?_
  refine VL.gy rfl rfl (q_geq rfl rfl) (by decide) ?_
  refine Zg ?_
  refine VL.split_dec 19 rfl (fun h19 => ?_) (fun h19 => ?_)
  ·
   replace hS := it_t h19 hS
   refine Zg ?_
   refine VL.gy rfl rfl (q_leq rfl rfl) (by decide) ?_
   refine VL.gy rfl rfl (q_pick_t rfl rfl) (by decide) ?_
   refine Zf ?_
   refine Za ?_
   refine Zl ?_
   refine VC.keep [2] rfl ?_
   cases hS
   exact Ze
  replace hS := it_f h19 hS
  refine Zn ?_
  refine Zn ?_
  refine VL.gy rfl rfl (q_pick_f rfl rfl) (by decide) ?_
  refine Zf ?_
  refine Za ?_
  refine Zl ?_
  refine VC.keep [2] rfl ?_
  cases hS
  exact Ze
 replace hS := it_f h12 hS
 refine Zn ?_
 refine Zn ?_
 refine Zf ?_
 refine Zm ?_
 refine Zg ?_
 refine VL.gy rfl rfl (q_geq rfl rfl) (by decide) ?_
 refine Zg ?_
 refine VL.split_dec 19 rfl (fun h19 => ?_) (fun h19 => ?_)
 ·
  replace hS := it_t h19 hS
  refine Zg ?_
  refine VL.gy rfl rfl (q_leq rfl rfl) (by decide) ?_
  refine VL.gy rfl rfl (q_pick_t rfl rfl) (by decide) ?_
  refine Zf ?_
  refine Za ?_
  refine Zl ?_
  refine VC.keep [2] rfl ?_
  cases hS
  exact Ze
 replace hS := it_f h19 hS
 refine Zn ?_
 refine Zn ?_
 refine VL.gy rfl rfl (q_pick_f rfl rfl) (by decide) ?_
 refine Zf ?_
 refine Za ?_
 refine Zl ?_
 refine VC.keep [2] rfl ?_
 cases hS
 exact Ze
theorem path_part_ct (s_0 : Str) {r : Bool} (hS : Sh.path_part s_0 = some r) :
 Ct Tryz.prog 214 [str s_0] Mo.tt (Ow.emp) (X := Unit) (fun _ => .bool r) (fun _ => True) (fun _ => Mo.tt) (fun _ => Ow.emp) := by
 refine Ct.of Tryz.func214 rfl (by kernel_rfl) Tryz.ntmps214 (by simp) fun c => ?_
 unfold Sh.path_part at hS
 refine Zq (Zr ?_)
 refine Za ?_
 refine Zl ?_
 refine Zq ?_
 refine VC.cutJ (S := Bool) (fun (x14_1 : Bool) => x14_1) (fun (x14_1 : Bool) => [(0, str s_0), (14, .bool x14_1)]) (fun (x14_1 : Bool) => Mo.tt) (fun (x14_1 : Bool) => Ow.emp) hS ?_ ?_
 ·
  clear hS
  intro k2 hS
  refine Zr ?_
  refine Zm ?_
  refine Zs ?_
  refine Zm ?_
  refine VL.split_dec 7 rfl (fun h7 => ?_) (fun h7 => ?_)
  ·
   replace hS := it_t h7 hS
   refine Zn ?_
   refine Zn ?_
   refine Zt ?_
   refine Zm ?_
   refine Zn ?_
   refine Zn ?_
   refine Zt ?_
   refine VL.mt true [0, 14] (fun _ _ h => h) hS rfl
  replace hS := it_f h7 hS
  refine Zg ?_
  refine VL.gy rfl rfl (q_seq rfl rfl) (by decide) ?_
  refine Zf ?_
  refine Zm ?_
  refine VL.split_dec 11 rfl (fun h11 => ?_) (fun h11 => ?_)
  ·
   replace hS := it_t h11 hS
   refine Zn ?_
   refine Zn ?_
   refine Zt ?_
   refine VL.mt true [0, 14] (fun _ _ h => h) hS rfl
  replace hS := it_f h11 hS
  refine Zg ?_
  refine VL.gy rfl rfl (q_seq rfl rfl) (by decide) ?_
  refine Zf ?_
  refine VL.mt (decide (s_0 = [46, 46])) [0, 14] (fun _ _ h => h) hS rfl
 clear hS
 rintro x14_1 hS
 show VC _ _ _ _ _ [(0, str s_0), (14, .bool x14_1)] (Mo.and Mo.tt _) (Ow.emp)
 refine VC.cond rfl (fun h14 => ?_) (fun h14 => ?_)
 ·
  replace hS := it_t h14 hS
  refine Zq (Zr ?_)
  refine Za ?_
  refine Zl ?_
  cases hS
  exact Ze
 replace hS := it_b h14 hS
 refine Zk ?_
 refine Zq (Zq (Zr ?_))
 refine Zm ?_
 obtain ⟨b16, hS⟩ := gd_s hS
 refine VL.s2b Tryz.underlying9 Tryz.underlying61 Tryz.underlying5 rfl b16 (by decide) fun s16_3 hs16_3 => ?_
 replace hS := lt_to hs16_3 hS
 refine VL.q (q_ln (s := s16_3) Tryz.underlying61 rfl) (by decide) ?_
 refine Zm ?_
 refine Zl ?_
 refine Zb ?_
 refine VC.iter (S := Int) (fun (x18_5 : Int) => x18_5) (fun (x18_5 : Int) => [(16, s16_3.val), (17, i64 (s16_3.l.length : Int)), (18, i64 x18_5)]) (fun (x18_5 : Int) => Mo.tt) (fun (x18_5 : Int) => Ow.emp) 0 [16, 17, 18] hS rfl ?_
 clear hS
 rintro x18_5 m1 y1 hS hK1
 show VC _ _ _ _ _ [(16, s16_3.val), (17, i64 (s16_3.l.length : Int)), (18, i64 x18_5)] (Mo.and Mo.tt _) (Ow.emp)
 refine Zq (Zr ?_)
 refine VL.q (q_lss rfl rfl) (by decide) ?_
 refine Zl ?_
 refine Zq ?_
 refine VC.cond_dec rfl (fun h19 => ?_) (fun h19 => ?_)
 ·
  replace hS := it_t h19 hS
  refine Zk ?_
  refine Zq (Zb (Zq (Zr ?_)))
  obtain ⟨z20_6, nz20_6, hz20_6, hS⟩ := at_s hS
  refine VL.q (q_ixm (s := s16_3) Tryz.underlying61 gsz5 rfl rfl nz20_6 (lt_of_get nz20_6 hz20_6)) (by decide) ?_
  refine VL.q (q_el (s := s16_3) gone5 rfl hz20_6 rfl) (by decide) ?_
  refine Za ?_
  refine Zl ?_
  refine Zq (Zr ?_)
  refine Zm ?_
  obtain ⟨y23_7, ey23_7, hS⟩ := bd_s hS
  refine VL.q (q_call (path_good_ct (z20_6.toNat : Int) ey23_7) rfl (fun _ _ => rfl)) (by decide) ?_
  refine VL.q (q_not rfl) (by decide) ?_
  refine Zl ?_
  refine VC.cond rfl (fun h24 => ?_) (fun h24 => ?_)
  ·
   replace hS := it_t h24 hS
   refine Zq (Zr ?_)
   refine Za ?_
   refine Zl ?_
   refine VC.keep [2] rfl ?_
   replace hS := up2 hS hK1
   cases hS
   exact Ze
  replace hS := it_b h24 hS
  refine Zk ?_
  refine Zr ?_
  obtain ⟨b25, hS⟩ := gd_s hS
  refine VL.q (q_add rfl rfl b25) (by decide) ?_
  refine Zm ?_
  refine VL.rnd (x18_5 + 1) [16, 17, 18] (fun _ _ h => h) (go2 hS hK1) rfl
 replace hS := it_f h19 hS
 replace hS := up2 hS hK1
 refine Zx ?_
 refine Zq (Zr ?_)
 refine Za ?_
 refine Zl ?_
 cases hS
 exact Ze
theorem path_Check_ct (p_0 : Str) {r : Int} (hS : Sh.path_Check p_0 = some r) :
 Ct Tryz.prog 134 [str p_0] Mo.tt (Ow.emp) (X := Unit) (fun _ => i64 r) (fun _ => True) (fun _ => Mo.tt) (fun _ => Ow.emp) := by
 refine Ct.of Tryz.func134 rfl (by kernel_rfl) Tryz.ntmps134 (by simp) fun c => ?_
 unfold Sh.path_Check at hS
 refine Zq (Zr ?_)
 refine Za ?_
 refine Zl ?_
 refine Zq (Zq (Zr ?_))
 refine Zm ?_
 refine VL.q (q_slen Tryz.underlying9 rfl) (by decide) ?_
 refine VL.q (q_gtr rfl rfl) (by decide) ?_
 refine Zl ?_
 refine VC.cond_dec rfl (fun h7 => ?_) (fun h7 => ?_)
 ·
  replace hS := it_t h7 hS
  refine Zq (Zr ?_)
  refine Za ?_
  refine Zl ?_
  cases hS
  exact Ze
 replace hS := it_f h7 hS
 refine Zk ?_
 refine Zq (Zq (Zr ?_))
 refine Zm ?_
 obtain ⟨y9_1, ey9_1, hS⟩ := bd_s hS
 refine VL.callF (strings_Split_ct p_0 [47] ey9_1) rfl (by decide) ?_
 rintro q9_1_0 rfl
 try dsimp only
 refine VL.q (q_ln (s := q9_1_0) Tryz.underlying32 rfl) (by decide) ?_
 refine Zm ?_
 refine Zl ?_
 refine Zb ?_
 refine VC.iter (S := Int) (fun (x11_2 : Int) => x11_2) (fun (x11_2 : Int) => [(9, q9_1_0.val), (10, i64 (q9_1_0.l.length : Int)), (11, i64 x11_2)]) (fun (x11_2 : Int) => Mo.tt) (fun (x11_2 : Int) => Ow.emp) 0 [9, 10, 11] hS rfl ?_
 clear hS
 rintro x11_2 m1 y1 hS hK1
 show VC _ _ _ _ _ [(9, q9_1_0.val), (10, i64 (q9_1_0.l.length : Int)), (11, i64 x11_2)] (Mo.and Mo.tt _) (Ow.emp)
 refine Zq (Zr ?_)
 refine VL.q (q_lss rfl rfl) (by decide) ?_
 refine Zl ?_
 refine Zq ?_
 refine VC.cond_dec rfl (fun h12 => ?_) (fun h12 => ?_)
 ·
  replace hS := it_t h12 hS
  refine Zk ?_
  refine Zq (Zb (Zq (Zr ?_)))
  obtain ⟨z13_3, nz13_3, hz13_3, hS⟩ := at_s hS
  refine VL.q (q_ixm (s := q9_1_0) Tryz.underlying32 gsz9 rfl rfl nz13_3 (lt_of_get nz13_3 hz13_3)) (by decide) ?_
  refine VL.q (q_el (s := q9_1_0) gone9 rfl hz13_3 rfl) (by decide) ?_
  refine Za ?_
  refine Zl ?_
  refine Zq (Zr ?_)
  refine Zm ?_
  obtain ⟨y16_4, ey16_4, hS⟩ := bd_s hS
  refine VL.q (q_call (path_part_ct z13_3 ey16_4) rfl (fun _ _ => rfl)) (by decide) ?_
  refine VL.q (q_not rfl) (by decide) ?_
  refine Zl ?_
  refine VC.cond rfl (fun h17 => ?_) (fun h17 => ?_)
  ·
   replace hS := it_t h17 hS
   refine Zq (Zr ?_)
   refine Za ?_
   refine Zl ?_
   refine VC.keep [2] rfl ?_
   replace hS := up2 hS hK1
   cases hS
   exact Ze
  replace hS := it_b h17 hS
  refine Zk ?_
  refine Zr ?_
  obtain ⟨b18, hS⟩ := gd_s hS
  refine VL.q (q_add rfl rfl b18) (by decide) ?_
  refine Zm ?_
  refine VL.rnd (x11_2 + 1) [9, 10, 11] (fun _ _ h => h) (go2 hS hK1) rfl
 replace hS := it_f h12 hS
 replace hS := up2 hS hK1
 refine Zx ?_
 refine Zq (Zr ?_)
 refine Za ?_
 refine Zl ?_
 cases hS
 exact Ze
theorem files_Row_wrong_1_ct (g_0 : FilesFile) (a_1_b : Nat) (a_1 : FilesFile) {r : Bool} (hS : Sh.files_Row_wrong_1 g_0 a_1 = some r) :
 Ct Tryz.prog 137 [.agg #[str g_0.path, i64 g_0.mode, str g_0.data], ptr a_1_b 0] (Cells a_1_b 0 [str a_1.path, i64 a_1.mode, str a_1.data]) (Ow.emp) (X := Unit) (fun _ => .bool r) (fun _ => True) (fun _ => Mo.tt) (fun _ => Ow.emp) := by
 refine Ct.of Tryz.func137 rfl (by kernel_rfl) Tryz.ntmps137 (by simp) fun c => ?_
 unfold Sh.files_Row_wrong_1 at hS
 refine Zq (Zr ?_)
 refine VL.box (cs := [str g_0.path, i64 g_0.mode, str g_0.data]) rfl rfl (by decide) fun b2_1 => ?_
 refine Za ?_
 refine Zl ?_
 refine Zq (Zr ?_)
 refine VL.q (q_field gfa50_0 rfl) (by decide) ?_
 refine VL.q (q_fe gone9 rfl rfl) (by decide) ?_
 refine VL.q (q_field gfa50_0 rfl) (by decide) ?_
 refine VL.q (q_fm gone9 rfl rfl) (by decide) ?_
 obtain ⟨y8_2, ey8_2, hS⟩ := bd_s hS
 refine VL.q (q_call (path_Clash_ct g_0.path a_1.path ey8_2) rfl (fun _ _ => rfl)) (by decide) ?_
 refine Za ?_
 refine Zl ?_
 cases hS
 exact Ze
theorem slices_IndexFunc_files_Row_files_File_v3_ct (s_0 : Sv FilesFile) (f_1_0_b : Nat) (f_1_0 : FilesFile) {r : Int} (hS : Sh.slices_IndexFunc_files_Row_files_File_v3 s_0.l f_1_0 = some r) :
 Ct Tryz.prog 216 [s_0.val, .func (.func 137) #[] #[ptr f_1_0_b 0]] (s_0.ok.and (Cells f_1_0_b 0 [str f_1_0.path, i64 f_1_0.mode, str f_1_0.data])) (Ow.emp) (X := Unit) (fun _ => i64 r) (fun _ => True) (fun _ => Mo.tt) (fun _ => Ow.emp) := by
 refine Ct.of Tryz.func216 rfl (by kernel_rfl) Tryz.ntmps216 (by simp) fun c => ?_
 unfold Sh.slices_IndexFunc_files_Row_files_File_v3 at hS
 refine Zq (Zr ?_)
 refine Za ?_
 refine Zl ?_
 refine Zq (Zq (Zr ?_))
 refine Zm ?_
 refine VL.q (q_ln (s := s_0) Tryz.underlying23 rfl) (by decide) ?_
 refine Zm ?_
 refine Zl ?_
 refine Zb ?_
 refine VC.iter (S := Int) (fun (x8_1 : Int) => x8_1) (fun (x8_1 : Int) => [(0, s_0.val), (1, .func (.func 137) #[] #[ptr f_1_0_b 0]), (7, i64 (s_0.l.length : Int)), (8, i64 x8_1)]) (fun (x8_1 : Int) => Mo.tt) (fun (x8_1 : Int) => Ow.emp) 0 [0, 1, 7, 8] hS rfl ?_
 clear hS
 rintro x8_1 m1 y1 hS hK1
 show VC _ _ _ _ _ [(0, s_0.val), (1, .func (.func 137) #[] #[ptr f_1_0_b 0]), (7, i64 (s_0.l.length : Int)), (8, i64 x8_1)] (Mo.and Mo.tt _) (Ow.emp)
 refine Zq (Zr ?_)
 refine VL.q (q_lss rfl rfl) (by decide) ?_
 refine Zl ?_
 refine Zq ?_
 refine VC.cond_dec rfl (fun h9 => ?_) (fun h9 => ?_)
 ·
  replace hS := it_t h9 hS
  refine Zk ?_
  refine Zq (Zb (Zq (Zr ?_)))
  refine Zm ?_
  refine Za ?_
  refine Zl ?_
  refine Zq (Zr ?_)
  refine Zm ?_
  refine Zm ?_
  refine Zm ?_
  obtain ⟨z14_2, nz14_2, hz14_2, hS⟩ := at_s hS
  refine VL.q (q_ixm (s := s_0) Tryz.underlying23 gsz50 rfl rfl nz14_2 (lt_of_get nz14_2 hz14_2)) (by decide) ?_
  refine VL.q (q_els (s := s_0) gagg50 rfl rfl hz14_2) (by decide) ?_
  obtain ⟨y16_3, ey16_3, hS⟩ := bd_s hS
  refine VL.q (q_callVC (vs := [.agg #[str z14_2.path, i64 z14_2.mode, str z14_2.data]]) (caps := [ptr f_1_0_b 0]) (files_Row_wrong_1_ct z14_2 f_1_0_b f_1_0 ey16_3) rfl rfl (fun _ _ => rfl)) (by decide) ?_
  refine Zl ?_
  refine VC.keep [0, 1, 7, 8, 5, 16] rfl ?_
  refine VC.cond rfl (fun h16 => ?_) (fun h16 => ?_)
  ·
   replace hS := it_t h16 hS
   refine Zq (Zr ?_)
   refine Zm ?_
   refine Za ?_
   refine Zl ?_
   replace hS := up2 hS hK1
   cases hS
   exact Ze
  replace hS := it_b h16 hS
  refine Zk ?_
  refine Zr ?_
  obtain ⟨b18, hS⟩ := gd_s hS
  refine VL.q (q_add rfl rfl b18) (by decide) ?_
  refine Zm ?_
  refine VL.rnd (x8_1 + 1) [0, 1, 7, 8] (fun _ _ h => h) (go2 hS hK1) rfl
 replace hS := it_f h9 hS
 replace hS := up2 hS hK1
 refine Zx ?_
 refine Zq (Zr ?_)
 refine Za ?_
 refine Zl ?_
 cases hS
 exact Ze
theorem slices_ContainsFunc_files_Row_files_File_ct (s_0 : Sv FilesFile) (f_1_0_b : Nat) (f_1_0 : FilesFile) {r : Bool} (hS : Sh.slices_ContainsFunc_files_Row_files_File s_0.l f_1_0 = some r) :
 Ct Tryz.prog 136 [s_0.val, .func (.func 137) #[] #[ptr f_1_0_b 0]] (s_0.ok.and (Cells f_1_0_b 0 [str f_1_0.path, i64 f_1_0.mode, str f_1_0.data])) (Ow.emp) (X := Unit) (fun _ => .bool r) (fun _ => True) (fun _ => Mo.tt) (fun _ => Ow.emp) := by
 refine Ct.of Tryz.func136 rfl (by kernel_rfl) Tryz.ntmps136 (by simp) fun c => ?_
 unfold Sh.slices_ContainsFunc_files_Row_files_File at hS
 refine Zq (Zr ?_)
 refine Za ?_
 refine Zl ?_
 refine Zq (Zr ?_)
 refine Zm ?_
 refine Zm ?_
 obtain ⟨y7_1, ey7_1, hS⟩ := bd_s hS
 refine VL.q (q_callR (slices_IndexFunc_files_Row_files_File_v3_ct s_0 f_1_0_b f_1_0 ey7_1) rfl (fun _ _ => rfl)) (by decide) ?_
 refine VL.q (q_geq rfl rfl) (by decide) ?_
 refine Za ?_
 refine Zl ?_
 cases hS
 exact Ze
theorem files_Row_wrong_ct (r_0 : Sv FilesFile) (i_1 : Int) {r : Int} (hS : Sh.files_Row_wrong r_0.l i_1 = some r) :
 Ct Tryz.prog 52 [r_0.val, i64 i_1] r_0.ok (Ow.emp) (X := Unit) (fun _ => i64 r) (fun _ => True) (fun _ => Mo.tt) (fun _ => Ow.emp) := by
 refine Ct.of Tryz.func52 rfl (by kernel_rfl) Tryz.ntmps52 (by simp) fun c => ?_
 unfold Sh.files_Row_wrong at hS
 refine Zq (Zr ?_)
 refine Za ?_
 refine Zl ?_
 refine Zq (Zr ?_)
 refine Zm ?_
 refine Zm ?_
 obtain ⟨z9_1, nz9_1, hz9_1, hS⟩ := at_s hS
 refine VL.q (q_ixm (s := r_0) Tryz.underlying23 gsz50 rfl rfl nz9_1 (lt_of_get nz9_1 hz9_1)) (by decide) ?_
 refine VL.q (q_els (s := r_0) gagg50 rfl rfl hz9_1) (by decide) ?_
 refine VL.alloc (cs := [str [], i64 0, str []]) (by kernel_rfl) (by decide) fun b5_2 => ?_
 refine VL.store (vc := [str z9_1.path, i64 z9_1.mode, str z9_1.data]) (cs' := [str z9_1.path, i64 z9_1.mode, str z9_1.data]) rfl rfl rfl gsz50 rfl rfl (Nat.le_of_ble_eq_true rfl) rfl ?_
 refine Zl ?_
 refine Zq (Zq (Zr ?_))
 refine VL.q (q_field gfa50_0 rfl) (by decide) ?_
 refine VL.q (q_fe gone9 rfl rfl) (by decide) ?_
 obtain ⟨y13_3, ey13_3, hS⟩ := bd_s hS
 refine VL.q (q_call (path_Check_ct z9_1.path ey13_3) rfl (fun _ _ => rfl)) (by decide) ?_
 refine Za ?_
 refine Zl ?_
 refine VC.keep [0, 1, 5, 6] rfl ?_
 refine Zq (Zr ?_)
 refine Zm ?_
 refine VL.q (q_neq rfl rfl) (by decide) ?_
 refine Zl ?_
 refine VC.cond_ndec rfl (fun h15 => ?_) (fun h15 => ?_)
 ·
  replace hS := it_f h15 hS
  refine Zq (Zr ?_)
  refine Zm ?_
  refine Za ?_
  refine Zl ?_
  cases hS
  exact Ze
 replace hS := it_t h15 hS
 refine Zk ?_
 refine Zq (Zb ?_)
 refine VC.cutJ (S := Bool) (fun (x17_4 : Bool) => x17_4) (fun (x17_4 : Bool) => [(0, r_0.val), (1, i64 i_1), (5, ptr b5_2 0), (17, .bool x17_4)]) (fun (x17_4 : Bool) => Mo.tt) (fun (x17_4 : Bool) => Ow.star (Blk b5_2 [str z9_1.path, i64 z9_1.mode, str z9_1.data] 50) (Ow.emp)) hS ?_ ?_
 ·
  clear hS
  intro k5 hS
  refine Zr ?_
  refine VL.q (q_field gfa50_1 rfl) (by decide) ?_
  refine VL.q (q_fe gone3 rfl rfl) (by decide) ?_
  refine VL.q (q_neq rfl rfl) (by decide) ?_
  refine Zm ?_
  refine VL.split_ndec 21 rfl (fun h21 => ?_) (fun h21 => ?_)
  ·
   replace hS := it_f h21 hS
   refine VL.gy rfl rfl (q_field gfa50_1 rfl) (by decide) ?_
   refine VL.gy rfl rfl (q_fe gone3 rfl rfl) (by decide) ?_
   refine VL.gy rfl rfl (q_neq rfl rfl) (by decide) ?_
   refine Zt ?_
   refine Za ?_
   refine VL.mt (!decide (z9_1.mode = 2)) [0, 1, 5, 17] (fun _ _ h => h) hS rfl
  replace hS := it_t h21 hS
  refine Zn ?_
  refine Zn ?_
  refine Zn ?_
  refine Zf ?_
  refine Za ?_
  refine VL.mt false [0, 1, 5, 17] (fun _ _ h => h) hS rfl
 clear hS
 rintro x17_4 hS
 show VC _ _ _ _ _ [(0, r_0.val), (1, i64 i_1), (5, ptr b5_2 0), (17, .bool x17_4)] (Mo.and Mo.tt _) (Ow.star (Blk b5_2 [str z9_1.path, i64 z9_1.mode, str z9_1.data] 50) (Ow.emp))
 refine VC.cond rfl (fun h17 => ?_) (fun h17 => ?_)
 ·
  replace hS := it_t h17 hS
  refine Zq (Zr ?_)
  refine Za ?_
  refine Zl ?_
  cases hS
  exact Ze
 replace hS := it_b h17 hS
 refine Zq (Zr ?_)
 refine VL.q (q_field gfa50_2 rfl) (by decide) ?_
 refine VL.q (q_fe gone9 rfl rfl) (by decide) ?_
 refine VL.q (q_slen Tryz.underlying9 rfl) (by decide) ?_
 refine VL.q (q_gtr rfl rfl) (by decide) ?_
 refine Za ?_
 refine Zl ?_
 refine VC.cond_dec rfl (fun h26 => ?_) (fun h26 => ?_)
 ·
  replace hS := it_t h26 hS
  refine Zq (Zr ?_)
  refine Za ?_
  refine Zl ?_
  cases hS
  exact Ze
 replace hS := it_f h26 hS
 refine VC.cutJ (S := Bool) (fun (x31_6 : Bool) => x31_6) (fun (x31_6 : Bool) => [(0, r_0.val), (1, i64 i_1), (5, ptr b5_2 0), (31, .bool x31_6)]) (fun (x31_6 : Bool) => Mo.tt) (fun (x31_6 : Bool) => Ow.star (Blk b5_2 [str z9_1.path, i64 z9_1.mode, str z9_1.data] 50) (Ow.emp)) hS ?_ ?_
 ·
  clear hS
  intro k7 hS
  refine VC.draw ((List.range 15).map fun k => (k, true)) mixed (by kernel_rfl) (by kernel_rfl) (by kernel_rfl) ?_
  refine VD.q rfl (q_move rfl) (by decide) ?_
  refine VD.q rfl (q_gtr rfl rfl) (by decide) ?_
  refine VD.q rfl (q_move rfl) (by decide) ?_
  refine VD.split_dec 34 rfl (fun h34 => ?_) (fun h34 => ?_)
  ·
   replace hS := it_t h34 hS
   refine VD.gy rfl rfl rfl (q_move rfl) (by decide) ?_
   refine VD.gy rfl rfl rfl (q_move rfl) (by decide) ?_
   obtain ⟨b37, hS⟩ := gd_s hS
   refine VD.gy rfl rfl rfl (q_sub rfl rfl b37) (by decide) ?_
   obtain ⟨z38_8, nz38_8, hz38_8, hS⟩ := at_s hS
   refine VD.gy rfl rfl rfl (q_ixm (s := r_0) Tryz.underlying23 gsz50 rfl rfl nz38_8 (lt_of_get nz38_8 hz38_8)) (by decide) ?_
   refine VD.gy rfl rfl rfl (q_field gfa50_0 rfl) (by decide) ?_
   refine VD.gy rfl rfl rfl (q_elf (s := r_0) gone9 rfl hz38_8 rfl) (by decide) ?_
   refine VD.gy rfl rfl rfl (q_field gfa50_0 rfl) (by decide) ?_
   refine VD.gy rfl rfl rfl (q_fe gone9 rfl rfl) (by decide) ?_
   obtain ⟨y43_9, ey43_9, hS⟩ := bd_s hS
   refine VD.gy rfl rfl rfl (q_call (path_Compare_ct z38_8.path z9_1.path ey43_9) rfl (fun _ _ => rfl)) (by decide) ?_
   refine VD.gy rfl rfl rfl (q_geq rfl rfl) (by decide) ?_
   refine VD.q rfl (q_pick_t rfl rfl) (by decide) ?_
   refine VD.q rfl (q_assign rfl) (by decide) ?_
   refine VD.mt (decide (0 ≤ y43_9)) [0, 1, 5, 31] (fun _ _ h => h) hS rfl
  replace hS := it_f h34 hS
  refine Zd ?_
  refine Zd ?_
  refine Zd ?_
  refine Zd ?_
  refine Zd ?_
  refine Zd ?_
  refine Zd ?_
  refine Zd ?_
  refine Zd ?_
  refine Zd ?_
  refine VD.q rfl (q_pick_f rfl rfl) (by decide) ?_
  refine VD.q rfl (q_assign rfl) (by decide) ?_
  refine VD.mt false [0, 1, 5, 31] (fun _ _ h => h) hS rfl
 clear hS
 rintro x31_6 hS
 show VC _ _ _ _ _ [(0, r_0.val), (1, i64 i_1), (5, ptr b5_2 0), (31, .bool x31_6)] (Mo.and Mo.tt _) (Ow.star (Blk b5_2 [str z9_1.path, i64 z9_1.mode, str z9_1.data] 50) (Ow.emp))
 refine VC.cond rfl (fun h31 => ?_) (fun h31 => ?_)
 ·
  replace hS := it_t h31 hS
  refine Zq (Zr ?_)
  refine Za ?_
  refine Zl ?_
  cases hS
  exact Ze
 replace hS := it_b h31 hS
 refine Zq (Zr ?_)
 refine Zm ?_
 refine Zm ?_
 obtain ⟨b49, hS⟩ := gd_s hS
 refine VL.sto Tryz.underlying23 gsz50 rfl rfl b49.1 (b49.2) (by decide) fun s49_10 hs49_10 => ?_
 replace hS := lt_to hs49_10 hS
 refine VL.q (q_mkfn rfl) (by decide) ?_
 obtain ⟨y51_12, ey51_12, hS⟩ := bd_s hS
 refine VL.q (q_callR (slices_ContainsFunc_files_Row_files_File_ct s49_10 b5_2 z9_1 ey51_12) rfl (fun _ _ => rfl)) (by decide) ?_
 refine Za ?_
 refine Zl ?_
 refine VC.cond rfl (fun h46 => ?_) (fun h46 => ?_)
 ·
  replace hS := it_t h46 hS
  refine Zq (Zr ?_)
  refine Za ?_
  refine Zl ?_
  refine VC.keep [4] rfl ?_
  cases hS
  exact Ze
 replace hS := it_b h46 hS
 refine Zk ?_
 refine Zq (Zr ?_)
 refine Za ?_
 refine Zl ?_
 refine VC.keep [4] rfl ?_
 cases hS
 exact Ze
theorem files_Row_Check_ct (r_0 : Sv FilesFile) {r : Err} (hS : Sh.files_Row_Check r_0.l = some r) :
 Ct Tryz.prog 13 [r_0.val] r_0.ok (Ow.emp) (X := Er) (fun x => x.val) (fun x => r = x.pl) (fun x => x.ok) (fun x => Ow.emp) := by
 refine Ct.of Tryz.func13 rfl (by kernel_rfl) Tryz.ntmps13 (by simp) fun c => ?_
 unfold Sh.files_Row_Check at hS
 refine Zq (Zr ?_)
 refine Za ?_
 refine Zl ?_
 refine Zq (Zq (Zr ?_))
 refine Zm ?_
 refine VL.q (q_ln (s := r_0) Tryz.underlying23 rfl) (by decide) ?_
 refine VL.q (q_gtr rfl rfl) (by decide) ?_
 refine Zl ?_
 refine VC.cond_dec rfl (fun h7 => ?_) (fun h7 => ?_)
 ·
  replace hS := it_t h7 hS
  refine Zq (Zr ?_)
  refine VL.q (q_mkif Tryz.underlying105 (fun _ h => by cases h) rfl) (by decide) ?_
  refine VL.q (q_build (vs := [(0, str [102, 105, 108, 101]), (1, i64 64), (2, (Er.no 4).val)]) (cs := #[str [102, 105, 108, 101], i64 64, (Er.no 4).val]) rfl (by kernel_rfl)) (by decide) ?_
  refine VL.box (cs := [str [102, 105, 108, 101], i64 64, (Er.no 4).val]) rfl rfl (by decide) fun b10_1 => ?_
  refine VL.shutB b10_1 ?_
  refine VL.q (q_mkif Tryz.underlying104 (fun _ h => by cases h) rfl) (by decide) ?_
  refine Za ?_
  refine Zl ?_
  cases hS
  exact VC.ret (fin1 (.inr rfl) rfl rfl (Er.fault b10_1 [102, 105, 108, 101] 64 (Er.no 4)) rfl rfl (by (try dsimp only); exact InM.out) (fun _ _ => trivial))
 replace hS := it_f h7 hS
 refine Zk ?_
 refine Zq (Zq (Zr ?_))
 refine Zm ?_
 refine VL.q (q_ln (s := r_0) Tryz.underlying23 rfl) (by decide) ?_
 refine Zm ?_
 refine Zl ?_
 refine Zb ?_
 refine VC.iter (S := Int) (fun (x14_2 : Int) => x14_2) (fun (x14_2 : Int) => [(0, r_0.val), (13, i64 (r_0.l.length : Int)), (14, i64 x14_2)]) (fun (x14_2 : Int) => Mo.tt) (fun (x14_2 : Int) => Ow.emp) 0 [0, 13, 14] hS rfl ?_
 clear hS
 rintro x14_2 m1 y1 hS hK1
 show VC _ _ _ _ _ [(0, r_0.val), (13, i64 (r_0.l.length : Int)), (14, i64 x14_2)] (Mo.and Mo.tt _) (Ow.emp)
 refine Zq (Zr ?_)
 refine VL.q (q_lss rfl rfl) (by decide) ?_
 refine Zl ?_
 refine Zq ?_
 refine VC.cond_dec rfl (fun h15 => ?_) (fun h15 => ?_)
 ·
  replace hS := it_t h15 hS
  refine Zk ?_
  refine Zq (Zb (Zq (Zr ?_)))
  refine Zm ?_
  refine Za ?_
  refine Zl ?_
  refine Zq (Zr ?_)
  refine Zm ?_
  refine Zm ?_
  obtain ⟨y19_3, ey19_3, hS⟩ := bd_s hS
  refine VL.q (q_call (files_Row_wrong_ct r_0 x14_2 ey19_3) rfl (fun _ _ => rfl)) (by decide) ?_
  refine Za ?_
  refine Zl ?_
  refine Zq (Zr ?_)
  refine Zm ?_
  refine VL.q (q_neq rfl rfl) (by decide) ?_
  refine Zl ?_
  refine VC.cond_ndec rfl (fun h21 => ?_) (fun h21 => ?_)
  ·
   replace hS := it_f h21 hS
   refine Zq (Zr ?_)
   refine Zm ?_
   refine Zm ?_
   refine VL.q (q_mkif Tryz.underlying105 (fun _ h => by cases h) rfl) (by decide) ?_
   refine VL.q (q_build (vs := [(0, str [102, 105, 108, 101]), (1, i64 x14_2), (2, (Er.no y19_3).val)]) (cs := #[str [102, 105, 108, 101], i64 x14_2, (Er.no y19_3).val]) rfl (by kernel_rfl)) (by decide) ?_
   refine VL.box (cs := [str [102, 105, 108, 101], i64 x14_2, (Er.no y19_3).val]) rfl rfl (by decide) fun b26_4 => ?_
   refine VL.shutB b26_4 ?_
   refine VL.q (q_mkif Tryz.underlying104 (fun _ h => by cases h) rfl) (by decide) ?_
   refine Za ?_
   refine Zl ?_
   refine VC.keep [2] rfl ?_
   replace hS := up2 hS hK1
   cases hS
   exact VC.ret (fin1 (.inr rfl) rfl rfl (Er.fault b26_4 [102, 105, 108, 101] x14_2 (Er.no y19_3)) rfl rfl (by (try dsimp only); exact InM.out) (fun _ _ => trivial))
  replace hS := it_t h21 hS
  refine Zk ?_
  refine VC.keep [0, 13, 14] rfl ?_
  refine Zr ?_
  obtain ⟨b28, hS⟩ := gd_s hS
  refine VL.q (q_add rfl rfl b28) (by decide) ?_
  refine Zm ?_
  refine VL.rnd (x14_2 + 1) [0, 13, 14] (fun _ _ h => h) (go2 hS hK1) rfl
 replace hS := it_f h15 hS
 replace hS := up2 hS hK1
 refine Zx ?_
 refine Zq (Zr ?_)
 refine Za ?_
 refine Zl ?_
 cases hS
 exact VC.ret (fin1 (.inr rfl) rfl rfl .nil rfl rfl (by (try dsimp only); exact InM.out) (fun _ _ => trivial))
theorem index_beside_ct (a_0 : IndexEntry) (b_1 : IndexEntry) {r : Bool} (hS : Sh.index_beside a_0 b_1 = some r) :
 Ct Tryz.prog 237 [.agg #[str a_0.path, i64 a_0.stage, i64 a_0.mode, str a_0.data, i64 a_0.time, i64 a_0.size], .agg #[str b_1.path, i64 b_1.stage, i64 b_1.mode, str b_1.data, i64 b_1.time, i64 b_1.size]] Mo.tt (Ow.emp) (X := Unit) (fun _ => .bool r) (fun _ => True) (fun _ => Mo.tt) (fun _ => Ow.emp) := by
 refine Ct.of Tryz.func237 rfl (by kernel_rfl) Tryz.ntmps237 (by simp) fun c => ?_
 unfold Sh.index_beside at hS
 refine Zq (Zr ?_)
 refine VL.box (cs := [str a_0.path, i64 a_0.stage, i64 a_0.mode, str a_0.data, i64 a_0.time, i64 a_0.size]) rfl rfl (by decide) fun b2_1 => ?_
 refine VL.box (cs := [str b_1.path, i64 b_1.stage, i64 b_1.mode, str b_1.data, i64 b_1.time, i64 b_1.size]) rfl rfl (by decide) fun b3_2 => ?_
 refine Za ?_
 refine Zl ?_
 refine Zq (Zr ?_)
 refine VL.q (q_field gfa83_0 rfl) (by decide) ?_
 refine VL.q (q_fe gone9 rfl rfl) (by decide) ?_
 refine VL.q (q_field gfa83_0 rfl) (by decide) ?_
 refine VL.q (q_fe gone9 rfl rfl) (by decide) ?_
 refine Zs ?_
 refine Zm ?_
 refine VL.split_dec 10 rfl (fun h10 => ?_) (fun h10 => ?_)
 ·
  replace hS := it_t h10 hS
  refine VL.gy rfl rfl (q_field gfa83_1 rfl) (by decide) ?_
  refine VL.gy rfl rfl (q_fe gone3 rfl rfl) (by decide) ?_
  refine VL.gy rfl rfl (q_eql rfl rfl) (by decide) ?_
  refine Zg ?_
  refine VL.split_dec 14 rfl (fun h14 => ?_) (fun h14 => ?_)
  ·
   replace hS := it_t h14 hS
   refine Zn ?_
   refine Zn ?_
   refine Zn ?_
   refine VL.gy rfl rfl (q_pick_t rfl rfl) (by decide) ?_
   refine Zt ?_
   refine Za ?_
   refine Zl ?_
   refine VC.keep [4] rfl ?_
   cases hS
   exact Ze
  replace hS := it_f h14 hS
  refine VL.gy rfl rfl (q_field gfa83_1 rfl) (by decide) ?_
  refine VL.gy rfl rfl (q_fe gone3 rfl rfl) (by decide) ?_
  refine VL.gy rfl rfl (q_eql rfl rfl) (by decide) ?_
  refine VL.gy rfl rfl (q_pick_f rfl rfl) (by decide) ?_
  refine Zt ?_
  refine Za ?_
  refine Zl ?_
  refine VC.keep [4] rfl ?_
  cases hS
  exact Ze
 replace hS := it_f h10 hS
 refine Zn ?_
 refine Zn ?_
 refine Zn ?_
 refine Zn ?_
 refine VL.gu rfl rfl (by decide) ?_
 refine VL.gu rfl rfl (by decide) ?_
 refine VL.gu rfl rfl (by decide) ?_
 refine Zn ?_
 refine Zf ?_
 refine Za ?_
 refine Zl ?_
 refine VC.keep [4] rfl ?_
 cases hS
 exact Ze
theorem index_wrong_1_ct (x_0 : IndexEntry) (a_1_b : Nat) (a_1 : IndexEntry) {r : Bool} (hS : Sh.index_wrong_1 x_0 a_1 = some r) :
 Ct Tryz.prog 236 [.agg #[str x_0.path, i64 x_0.stage, i64 x_0.mode, str x_0.data, i64 x_0.time, i64 x_0.size], ptr a_1_b 0] (Cells a_1_b 0 [str a_1.path, i64 a_1.stage, i64 a_1.mode, str a_1.data, i64 a_1.time, i64 a_1.size]) (Ow.emp) (X := Unit) (fun _ => .bool r) (fun _ => True) (fun _ => Mo.tt) (fun _ => Ow.emp) := by
 refine Ct.of Tryz.func236 rfl (by kernel_rfl) Tryz.ntmps236 (by simp) fun c => ?_
 unfold Sh.index_wrong_1 at hS
 refine Zq (Zr ?_)
 refine VL.box (cs := [str x_0.path, i64 x_0.stage, i64 x_0.mode, str x_0.data, i64 x_0.time, i64 x_0.size]) rfl rfl (by decide) fun b2_1 => ?_
 refine Za ?_
 refine Zl ?_
 refine Zq (Zr ?_)
 refine VL.q (q_fes gagg83 rfl rfl) (by decide) ?_
 refine VL.q (q_fms gagg83 rfl rfl) (by decide) ?_
 obtain ⟨y6_2, ey6_2, hS⟩ := bd_s hS
 refine VL.q (q_call (index_beside_ct x_0 a_1 ey6_2) rfl (fun _ _ => rfl)) (by decide) ?_
 refine Za ?_
 refine Zl ?_
 cases hS
 exact Ze
theorem slices_IndexFunc_index_Entry_index_Entry_v4_ct (s_0 : Sv IndexEntry) (f_1_0_b : Nat) (f_1_0 : IndexEntry) {r : Int} (hS : Sh.slices_IndexFunc_index_Entry_index_Entry_v4 s_0.l f_1_0 = some r) :
 Ct Tryz.prog 217 [s_0.val, .func (.func 236) #[] #[ptr f_1_0_b 0]] (s_0.ok.and (Cells f_1_0_b 0 [str f_1_0.path, i64 f_1_0.stage, i64 f_1_0.mode, str f_1_0.data, i64 f_1_0.time, i64 f_1_0.size])) (Ow.emp) (X := Unit) (fun _ => i64 r) (fun _ => True) (fun _ => Mo.tt) (fun _ => Ow.emp) := by
 refine Ct.of Tryz.func217 rfl (by kernel_rfl) Tryz.ntmps217 (by simp) fun c => ?_
 unfold Sh.slices_IndexFunc_index_Entry_index_Entry_v4 at hS
 refine Zq (Zr ?_)
 refine Za ?_
 refine Zl ?_
 refine Zq (Zq (Zr ?_))
 refine Zm ?_
 refine VL.q (q_ln (s := s_0) Tryz.underlying29 rfl) (by decide) ?_
 refine Zm ?_
 refine Zl ?_
 refine Zb ?_
 refine VC.iter (S := Int) (fun (x8_1 : Int) => x8_1) (fun (x8_1 : Int) => [(0, s_0.val), (1, .func (.func 236) #[] #[ptr f_1_0_b 0]), (7, i64 (s_0.l.length : Int)), (8, i64 x8_1)]) (fun (x8_1 : Int) => Mo.tt) (fun (x8_1 : Int) => Ow.emp) 0 [0, 1, 7, 8] hS rfl ?_
 clear hS
 rintro x8_1 m1 y1 hS hK1
 show VC _ _ _ _ _ [(0, s_0.val), (1, .func (.func 236) #[] #[ptr f_1_0_b 0]), (7, i64 (s_0.l.length : Int)), (8, i64 x8_1)] (Mo.and Mo.tt _) (Ow.emp)
 refine Zq (Zr ?_)
 refine VL.q (q_lss rfl rfl) (by decide) ?_
 refine Zl ?_
 refine Zq ?_
 refine VC.cond_dec rfl (fun h9 => ?_) (fun h9 => ?_)
 ·
  replace hS := it_t h9 hS
  refine Zk ?_
  refine Zq (Zb (Zq (Zr ?_)))
  refine Zm ?_
  refine Za ?_
  refine Zl ?_
  refine Zq (Zr ?_)
  refine Zm ?_
  refine Zm ?_
  refine Zm ?_
  obtain ⟨z14_2, nz14_2, hz14_2, hS⟩ := at_s hS
  refine VL.q (q_ixm (s := s_0) Tryz.underlying29 gsz83 rfl rfl nz14_2 (lt_of_get nz14_2 hz14_2)) (by decide) ?_
  refine VL.q (q_els (s := s_0) gagg83 rfl rfl hz14_2) (by decide) ?_
  obtain ⟨y16_3, ey16_3, hS⟩ := bd_s hS
  refine VL.q (q_callVC (vs := [.agg #[str z14_2.path, i64 z14_2.stage, i64 z14_2.mode, str z14_2.data, i64 z14_2.time, i64 z14_2.size]]) (caps := [ptr f_1_0_b 0]) (index_wrong_1_ct z14_2 f_1_0_b f_1_0 ey16_3) rfl rfl (fun _ _ => rfl)) (by decide) ?_
  refine Zl ?_
  refine VC.keep [0, 1, 7, 8, 5, 16] rfl ?_
  refine VC.cond rfl (fun h16 => ?_) (fun h16 => ?_)
  ·
   replace hS := it_t h16 hS
   refine Zq (Zr ?_)
   refine Zm ?_
   refine Za ?_
   refine Zl ?_
   replace hS := up2 hS hK1
   cases hS
   exact Ze
  replace hS := it_b h16 hS
  refine Zk ?_
  refine Zr ?_
  obtain ⟨b18, hS⟩ := gd_s hS
  refine VL.q (q_add rfl rfl b18) (by decide) ?_
  refine Zm ?_
  refine VL.rnd (x8_1 + 1) [0, 1, 7, 8] (fun _ _ h => h) (go2 hS hK1) rfl
 replace hS := it_f h9 hS
 replace hS := up2 hS hK1
 refine Zx ?_
 refine Zq (Zr ?_)
 refine Za ?_
 refine Zl ?_
 cases hS
 exact Ze
theorem slices_ContainsFunc_index_Entry_index_Entry_v2_ct (s_0 : Sv IndexEntry) (f_1_0_b : Nat) (f_1_0 : IndexEntry) {r : Bool} (hS : Sh.slices_ContainsFunc_index_Entry_index_Entry_v2 s_0.l f_1_0 = some r) :
 Ct Tryz.prog 144 [s_0.val, .func (.func 236) #[] #[ptr f_1_0_b 0]] (s_0.ok.and (Cells f_1_0_b 0 [str f_1_0.path, i64 f_1_0.stage, i64 f_1_0.mode, str f_1_0.data, i64 f_1_0.time, i64 f_1_0.size])) (Ow.emp) (X := Unit) (fun _ => .bool r) (fun _ => True) (fun _ => Mo.tt) (fun _ => Ow.emp) := by
 refine Ct.of Tryz.func144 rfl (by kernel_rfl) Tryz.ntmps144 (by simp) fun c => ?_
 unfold Sh.slices_ContainsFunc_index_Entry_index_Entry_v2 at hS
 refine Zq (Zr ?_)
 refine Za ?_
 refine Zl ?_
 refine Zq (Zr ?_)
 refine Zm ?_
 refine Zm ?_
 obtain ⟨y7_1, ey7_1, hS⟩ := bd_s hS
 refine VL.q (q_callR (slices_IndexFunc_index_Entry_index_Entry_v4_ct s_0 f_1_0_b f_1_0 ey7_1) rfl (fun _ _ => rfl)) (by decide) ?_
 refine VL.q (q_geq rfl rfl) (by decide) ?_
 refine Za ?_
 refine Zl ?_
 cases hS
 exact Ze
theorem index_wrong_2_ct (x_0 : IndexEntry) (a_1_b : Nat) (a_1 : IndexEntry) {r : Bool} (hS : Sh.index_wrong_2 x_0 a_1 = some r) :
 Ct Tryz.prog 238 [.agg #[str x_0.path, i64 x_0.stage, i64 x_0.mode, str x_0.data, i64 x_0.time, i64 x_0.size], ptr a_1_b 0] (Cells a_1_b 0 [str a_1.path, i64 a_1.stage, i64 a_1.mode, str a_1.data, i64 a_1.time, i64 a_1.size]) (Ow.emp) (X := Unit) (fun _ => .bool r) (fun _ => True) (fun _ => Mo.tt) (fun _ => Ow.emp) := by
 refine Ct.of Tryz.func238 rfl (by kernel_rfl) Tryz.ntmps238 (by simp) fun c => ?_
 unfold Sh.index_wrong_2 at hS
 refine Zq (Zr ?_)
 refine VL.box (cs := [str x_0.path, i64 x_0.stage, i64 x_0.mode, str x_0.data, i64 x_0.time, i64 x_0.size]) rfl rfl (by decide) fun b2_1 => ?_
 refine Za ?_
 refine Zl ?_
 refine Zq (Zr ?_)
 refine VL.q (q_field gfa83_0 rfl) (by decide) ?_
 refine VL.q (q_fe gone9 rfl rfl) (by decide) ?_
 refine VL.q (q_field gfa83_0 rfl) (by decide) ?_
 refine VL.q (q_fm gone9 rfl rfl) (by decide) ?_
 obtain ⟨y8_2, ey8_2, hS⟩ := bd_s hS
 refine VL.q (q_call (path_Clash_ct x_0.path a_1.path ey8_2) rfl (fun _ _ => rfl)) (by decide) ?_
 refine Za ?_
 refine Zl ?_
 cases hS
 exact Ze
theorem slices_IndexFunc_index_Entry_index_Entry_v5_ct (s_0 : Sv IndexEntry) (f_1_0_b : Nat) (f_1_0 : IndexEntry) {r : Int} (hS : Sh.slices_IndexFunc_index_Entry_index_Entry_v5 s_0.l f_1_0 = some r) :
 Ct Tryz.prog 217 [s_0.val, .func (.func 238) #[] #[ptr f_1_0_b 0]] (s_0.ok.and (Cells f_1_0_b 0 [str f_1_0.path, i64 f_1_0.stage, i64 f_1_0.mode, str f_1_0.data, i64 f_1_0.time, i64 f_1_0.size])) (Ow.emp) (X := Unit) (fun _ => i64 r) (fun _ => True) (fun _ => Mo.tt) (fun _ => Ow.emp) := by
 refine Ct.of Tryz.func217 rfl (by kernel_rfl) Tryz.ntmps217 (by simp) fun c => ?_
 unfold Sh.slices_IndexFunc_index_Entry_index_Entry_v5 at hS
 refine Zq (Zr ?_)
 refine Za ?_
 refine Zl ?_
 refine Zq (Zq (Zr ?_))
 refine Zm ?_
 refine VL.q (q_ln (s := s_0) Tryz.underlying29 rfl) (by decide) ?_
 refine Zm ?_
 refine Zl ?_
 refine Zb ?_
 refine VC.iter (S := Int) (fun (x8_1 : Int) => x8_1) (fun (x8_1 : Int) => [(0, s_0.val), (1, .func (.func 238) #[] #[ptr f_1_0_b 0]), (7, i64 (s_0.l.length : Int)), (8, i64 x8_1)]) (fun (x8_1 : Int) => Mo.tt) (fun (x8_1 : Int) => Ow.emp) 0 [0, 1, 7, 8] hS rfl ?_
 clear hS
 rintro x8_1 m1 y1 hS hK1
 show VC _ _ _ _ _ [(0, s_0.val), (1, .func (.func 238) #[] #[ptr f_1_0_b 0]), (7, i64 (s_0.l.length : Int)), (8, i64 x8_1)] (Mo.and Mo.tt _) (Ow.emp)
 refine Zq (Zr ?_)
 refine VL.q (q_lss rfl rfl) (by decide) ?_
 refine Zl ?_
 refine Zq ?_
 refine VC.cond_dec rfl (fun h9 => ?_) (fun h9 => ?_)
 ·
  replace hS := it_t h9 hS
  refine Zk ?_
  refine Zq (Zb (Zq (Zr ?_)))
  refine Zm ?_
  refine Za ?_
  refine Zl ?_
  refine Zq (Zr ?_)
  refine Zm ?_
  refine Zm ?_
  refine Zm ?_
  obtain ⟨z14_2, nz14_2, hz14_2, hS⟩ := at_s hS
  refine VL.q (q_ixm (s := s_0) Tryz.underlying29 gsz83 rfl rfl nz14_2 (lt_of_get nz14_2 hz14_2)) (by decide) ?_
  refine VL.q (q_els (s := s_0) gagg83 rfl rfl hz14_2) (by decide) ?_
  obtain ⟨y16_3, ey16_3, hS⟩ := bd_s hS
  refine VL.q (q_callVC (vs := [.agg #[str z14_2.path, i64 z14_2.stage, i64 z14_2.mode, str z14_2.data, i64 z14_2.time, i64 z14_2.size]]) (caps := [ptr f_1_0_b 0]) (index_wrong_2_ct z14_2 f_1_0_b f_1_0 ey16_3) rfl rfl (fun _ _ => rfl)) (by decide) ?_
  refine Zl ?_
  refine VC.keep [0, 1, 7, 8, 5, 16] rfl ?_
  refine VC.cond rfl (fun h16 => ?_) (fun h16 => ?_)
  ·
   replace hS := it_t h16 hS
   refine Zq (Zr ?_)
   refine Zm ?_
   refine Za ?_
   refine Zl ?_
   replace hS := up2 hS hK1
   cases hS
   exact Ze
  replace hS := it_b h16 hS
  refine Zk ?_
  refine Zr ?_
  obtain ⟨b18, hS⟩ := gd_s hS
  refine VL.q (q_add rfl rfl b18) (by decide) ?_
  refine Zm ?_
  refine VL.rnd (x8_1 + 1) [0, 1, 7, 8] (fun _ _ h => h) (go2 hS hK1) rfl
 replace hS := it_f h9 hS
 replace hS := up2 hS hK1
 refine Zx ?_
 refine Zq (Zr ?_)
 refine Za ?_
 refine Zl ?_
 cases hS
 exact Ze
theorem slices_ContainsFunc_index_Entry_index_Entry_v3_ct (s_0 : Sv IndexEntry) (f_1_0_b : Nat) (f_1_0 : IndexEntry) {r : Bool} (hS : Sh.slices_ContainsFunc_index_Entry_index_Entry_v3 s_0.l f_1_0 = some r) :
 Ct Tryz.prog 144 [s_0.val, .func (.func 238) #[] #[ptr f_1_0_b 0]] (s_0.ok.and (Cells f_1_0_b 0 [str f_1_0.path, i64 f_1_0.stage, i64 f_1_0.mode, str f_1_0.data, i64 f_1_0.time, i64 f_1_0.size])) (Ow.emp) (X := Unit) (fun _ => .bool r) (fun _ => True) (fun _ => Mo.tt) (fun _ => Ow.emp) := by
 refine Ct.of Tryz.func144 rfl (by kernel_rfl) Tryz.ntmps144 (by simp) fun c => ?_
 unfold Sh.slices_ContainsFunc_index_Entry_index_Entry_v3 at hS
 refine Zq (Zr ?_)
 refine Za ?_
 refine Zl ?_
 refine Zq (Zr ?_)
 refine Zm ?_
 refine Zm ?_
 obtain ⟨y7_1, ey7_1, hS⟩ := bd_s hS
 refine VL.q (q_callR (slices_IndexFunc_index_Entry_index_Entry_v5_ct s_0 f_1_0_b f_1_0 ey7_1) rfl (fun _ _ => rfl)) (by decide) ?_
 refine VL.q (q_geq rfl rfl) (by decide) ?_
 refine Za ?_
 refine Zl ?_
 cases hS
 exact Ze
theorem index_wrong_ct (l_0 : Sv IndexEntry) (i_1 : Int) {r : Int} (hS : Sh.index_wrong l_0.l i_1 = some r) :
 Ct Tryz.prog 153 [l_0.val, i64 i_1] l_0.ok (Ow.emp) (X := Unit) (fun _ => i64 r) (fun _ => True) (fun _ => Mo.tt) (fun _ => Ow.emp) := by
 refine Ct.of Tryz.func153 rfl (by kernel_rfl) Tryz.ntmps153 (by simp) fun c => ?_
 unfold Sh.index_wrong at hS
 refine Zq (Zr ?_)
 refine Za ?_
 refine Zl ?_
 refine Zq (Zr ?_)
 refine Zm ?_
 refine Zm ?_
 obtain ⟨z9_1, nz9_1, hz9_1, hS⟩ := at_s hS
 refine VL.q (q_ixm (s := l_0) Tryz.underlying29 gsz83 rfl rfl nz9_1 (lt_of_get nz9_1 hz9_1)) (by decide) ?_
 refine VL.q (q_els (s := l_0) gagg83 rfl rfl hz9_1) (by decide) ?_
 refine VL.alloc (cs := [str [], i64 0, i64 0, str [], i64 0, i64 0]) (by kernel_rfl) (by decide) fun b5_2 => ?_
 refine VL.store (vc := [str z9_1.path, i64 z9_1.stage, i64 z9_1.mode, str z9_1.data, i64 z9_1.time, i64 z9_1.size]) (cs' := [str z9_1.path, i64 z9_1.stage, i64 z9_1.mode, str z9_1.data, i64 z9_1.time, i64 z9_1.size]) rfl rfl rfl gsz83 rfl rfl (Nat.le_of_ble_eq_true rfl) rfl ?_
 refine Zl ?_
 refine Zq (Zq (Zr ?_))
 refine VL.q (q_field gfa83_0 rfl) (by decide) ?_
 refine VL.q (q_fe gone9 rfl rfl) (by decide) ?_
 obtain ⟨y13_3, ey13_3, hS⟩ := bd_s hS
 refine VL.q (q_call (path_Check_ct z9_1.path ey13_3) rfl (fun _ _ => rfl)) (by decide) ?_
 refine Za ?_
 refine Zl ?_
 refine VC.keep [0, 1, 5, 6] rfl ?_
 refine Zq (Zr ?_)
 refine Zm ?_
 refine VL.q (q_neq rfl rfl) (by decide) ?_
 refine Zl ?_
 refine VC.cond_ndec rfl (fun h15 => ?_) (fun h15 => ?_)
 ·
  replace hS := it_f h15 hS
  refine Zq (Zr ?_)
  refine Zm ?_
  refine Za ?_
  refine Zl ?_
  cases hS
  exact Ze
 replace hS := it_t h15 hS
 refine Zk ?_
 refine Zq (Zb ?_)
 refine VC.cutJ (S := Bool) (fun (x17_4 : Bool) => x17_4) (fun (x17_4 : Bool) => [(0, l_0.val), (1, i64 i_1), (5, ptr b5_2 0), (17, .bool x17_4)]) (fun (x17_4 : Bool) => Mo.tt) (fun (x17_4 : Bool) => Ow.star (Blk b5_2 [str z9_1.path, i64 z9_1.stage, i64 z9_1.mode, str z9_1.data, i64 z9_1.time, i64 z9_1.size] 83) (Ow.emp)) hS ?_ ?_
 ·
  clear hS
  intro k5 hS
  refine Zr ?_
  refine VL.q (q_field gfa83_1 rfl) (by decide) ?_
  refine VL.q (q_fe gone3 rfl rfl) (by decide) ?_
  refine VL.q (q_lss rfl rfl) (by decide) ?_
  refine Zm ?_
  refine VL.split_dec 21 rfl (fun h21 => ?_) (fun h21 => ?_)
  ·
   replace hS := it_t h21 hS
   refine Zn ?_
   refine Zn ?_
   refine Zn ?_
   refine Zt ?_
   refine Zm ?_
   refine Zn ?_
   refine Zn ?_
   refine Zn ?_
   refine Zn ?_
   refine VL.gu rfl rfl (by decide) ?_
   refine VL.gu rfl rfl (by decide) ?_
   refine VL.gu rfl rfl (by decide) ?_
   refine Zn ?_
   refine Zt ?_
   refine Zm ?_
   refine Zn ?_
   refine Zn ?_
   refine Zn ?_
   refine Zt ?_
   refine Zm ?_
   refine Zn ?_
   refine Zn ?_
   refine Zn ?_
   refine Zt ?_
   refine Za ?_
   refine VL.mt true [0, 1, 5, 17] (fun _ _ h => h) hS rfl
  replace hS := it_f h21 hS
  refine VL.gy rfl rfl (q_field gfa83_1 rfl) (by decide) ?_
  refine VL.gy rfl rfl (q_fe gone3 rfl rfl) (by decide) ?_
  refine VL.gy rfl rfl (q_gtr rfl rfl) (by decide) ?_
  refine Zf ?_
  refine Zm ?_
  refine VL.split_dec 26 rfl (fun h26 => ?_) (fun h26 => ?_)
  ·
   replace hS := it_t h26 hS
   refine Zn ?_
   refine Zn ?_
   refine Zn ?_
   refine Zn ?_
   refine VL.gu rfl rfl (by decide) ?_
   refine VL.gu rfl rfl (by decide) ?_
   refine VL.gu rfl rfl (by decide) ?_
   refine Zn ?_
   refine Zt ?_
   refine Zm ?_
   refine Zn ?_
   refine Zn ?_
   refine Zn ?_
   refine Zt ?_
   refine Zm ?_
   refine Zn ?_
   refine Zn ?_
   refine Zn ?_
   refine Zt ?_
   refine Za ?_
   refine VL.mt true [0, 1, 5, 17] (fun _ _ h => h) hS rfl
  replace hS := it_f h26 hS
  refine VL.gy rfl rfl (q_field gfa83_2 rfl) (by decide) ?_
  refine VL.gy rfl rfl (q_fe gone3 rfl rfl) (by decide) ?_
  refine VL.gy rfl rfl (q_neq rfl rfl) (by decide) ?_
  refine Zg ?_
  refine VL.split_ndec 30 rfl (fun h30 => ?_) (fun h30 => ?_)
  ·
   replace hS := it_f h30 hS
   refine VL.gy rfl rfl (q_field gfa83_2 rfl) (by decide) ?_
   refine VL.gy rfl rfl (q_fe gone3 rfl rfl) (by decide) ?_
   refine VL.gy rfl rfl (q_neq rfl rfl) (by decide) ?_
   refine VL.gy rfl rfl (q_pick_t rfl rfl) (by decide) ?_
   refine Zf ?_
   refine Zm ?_
   refine VL.split_ndec 36 rfl (fun h36 => ?_) (fun h36 => ?_)
   ·
    replace hS := it_f h36 hS
    refine Zn ?_
    refine Zn ?_
    refine Zn ?_
    refine Zt ?_
    refine Zm ?_
    refine Zn ?_
    refine Zn ?_
    refine Zn ?_
    refine Zt ?_
    refine Za ?_
    refine VL.mt true [0, 1, 5, 17] (fun _ _ h => h) hS rfl
   replace hS := it_t h36 hS
   refine VL.gy rfl rfl (q_field gfa83_4 rfl) (by decide) ?_
   refine VL.gy rfl rfl (q_fe gone3 rfl rfl) (by decide) ?_
   refine VL.gy rfl rfl (q_lss rfl rfl) (by decide) ?_
   refine Zf ?_
   refine Zm ?_
   refine VL.split_dec 41 rfl (fun h41 => ?_) (fun h41 => ?_)
   ·
    replace hS := it_t h41 hS
    refine Zn ?_
    refine Zn ?_
    refine Zn ?_
    refine Zt ?_
    refine Za ?_
    refine VL.mt true [0, 1, 5, 17] (fun _ _ h => h) hS rfl
   replace hS := it_f h41 hS
   refine VL.gy rfl rfl (q_field gfa83_5 rfl) (by decide) ?_
   refine VL.gy rfl rfl (q_fe gone3 rfl rfl) (by decide) ?_
   refine VL.gy rfl rfl (q_lss rfl rfl) (by decide) ?_
   refine Zf ?_
   refine Za ?_
   refine VL.mt (decide (z9_1.size < 0)) [0, 1, 5, 17] (fun _ _ h => h) hS rfl
  replace hS := it_t h30 hS
  refine Zn ?_
  refine Zn ?_
  refine Zn ?_
  refine VL.gy rfl rfl (q_pick_f rfl rfl) (by decide) ?_
  refine Zf ?_
  refine Zm ?_
  refine VL.gy rfl rfl (q_field gfa83_4 rfl) (by decide) ?_
  refine VL.gy rfl rfl (q_fe gone3 rfl rfl) (by decide) ?_
  refine VL.gy rfl rfl (q_lss rfl rfl) (by decide) ?_
  refine Zf ?_
  refine Zm ?_
  refine VL.split_dec 41 rfl (fun h41 => ?_) (fun h41 => ?_)
  ·
   replace hS := it_t h41 hS
   refine Zn ?_
   refine Zn ?_
   refine Zn ?_
   refine Zt ?_
   refine Za ?_
   refine VL.mt true [0, 1, 5, 17] (fun _ _ h => h) hS rfl
  replace hS := it_f h41 hS
  refine VL.gy rfl rfl (q_field gfa83_5 rfl) (by decide) ?_
  refine VL.gy rfl rfl (q_fe gone3 rfl rfl) (by decide) ?_
  refine VL.gy rfl rfl (q_lss rfl rfl) (by decide) ?_
  refine Zf ?_
  refine Za ?_
  refine VL.mt (decide (z9_1.size < 0)) [0, 1, 5, 17] (fun _ _ h => h) hS rfl
 clear hS
 rintro x17_4 hS
 show VC _ _ _ _ _ [(0, l_0.val), (1, i64 i_1), (5, ptr b5_2 0), (17, .bool x17_4)] (Mo.and Mo.tt _) (Ow.star (Blk b5_2 [str z9_1.path, i64 z9_1.stage, i64 z9_1.mode, str z9_1.data, i64 z9_1.time, i64 z9_1.size] 83) (Ow.emp))
 refine VC.cond rfl (fun h17 => ?_) (fun h17 => ?_)
 ·
  replace hS := it_t h17 hS
  refine Zq (Zr ?_)
  refine Za ?_
  refine Zl ?_
  cases hS
  exact Ze
 replace hS := it_b h17 hS
 refine Zq (Zr ?_)
 refine VL.q (q_field gfa83_3 rfl) (by decide) ?_
 refine VL.q (q_fe gone9 rfl rfl) (by decide) ?_
 refine VL.q (q_slen Tryz.underlying9 rfl) (by decide) ?_
 refine VL.q (q_gtr rfl rfl) (by decide) ?_
 refine Za ?_
 refine Zl ?_
 refine VC.cond_dec rfl (fun h46 => ?_) (fun h46 => ?_)
 ·
  replace hS := it_t h46 hS
  refine Zq (Zr ?_)
  refine Za ?_
  refine Zl ?_
  cases hS
  exact Ze
 replace hS := it_f h46 hS
 refine VC.cutJ (S := Bool) (fun (x51_6 : Bool) => x51_6) (fun (x51_6 : Bool) => [(0, l_0.val), (1, i64 i_1), (5, ptr b5_2 0), (51, .bool x51_6)]) (fun (x51_6 : Bool) => Mo.tt) (fun (x51_6 : Bool) => Ow.star (Blk b5_2 [str z9_1.path, i64 z9_1.stage, i64 z9_1.mode, str z9_1.data, i64 z9_1.time, i64 z9_1.size] 83) (Ow.emp)) hS ?_ ?_
 ·
  clear hS
  intro k7 hS
  refine VC.cutJ (S := Bool) (fun (x51_8 : Bool) => x51_8) (fun (x51_8 : Bool) => [(0, l_0.val), (1, i64 i_1), (5, ptr b5_2 0), (51, .bool x51_8)]) (fun (x51_8 : Bool) => Mo.tt) (fun (x51_8 : Bool) => Ow.star (Blk b5_2 [str z9_1.path, i64 z9_1.stage, i64 z9_1.mode, str z9_1.data, i64 z9_1.time, i64 z9_1.size] 83) (Ow.emp)) hS ?_ ?_
  ·
   clear hS
   intro k9 hS
   refine VC.draw ((List.range 13).map fun k => (k, true)) mixed (by kernel_rfl) (by kernel_rfl) (by kernel_rfl) ?_
   refine VD.q rfl (q_move rfl) (by decide) ?_
   refine VD.q rfl (q_gtr rfl rfl) (by decide) ?_
   refine VD.q rfl (q_move rfl) (by decide) ?_
   refine VD.split_dec 54 rfl (fun h54 => ?_) (fun h54 => ?_)
   ·
    replace hS := it_t h54 hS
    refine VD.gy rfl rfl rfl (q_move rfl) (by decide) ?_
    refine VD.gy rfl rfl rfl (q_move rfl) (by decide) ?_
    obtain ⟨b57, hS⟩ := gd_s hS
    refine VD.gy rfl rfl rfl (q_sub rfl rfl b57) (by decide) ?_
    obtain ⟨z58_10, nz58_10, hz58_10, hS⟩ := at_s hS
    refine VD.gy rfl rfl rfl (q_ixm (s := l_0) Tryz.underlying29 gsz83 rfl rfl nz58_10 (lt_of_get nz58_10 hz58_10)) (by decide) ?_
    refine VD.gy rfl rfl rfl (q_els (s := l_0) gagg83 rfl rfl hz58_10) (by decide) ?_
    refine VD.gy rfl rfl rfl (q_fes gagg83 rfl rfl) (by decide) ?_
    obtain ⟨y61_11, ey61_11, hS⟩ := bd_s hS
    refine VD.gy rfl rfl rfl (q_call (index_compare_ct z58_10 z9_1 ey61_11) rfl (fun _ _ => rfl)) (by decide) ?_
    refine VD.gy rfl rfl rfl (q_geq rfl rfl) (by decide) ?_
    refine VD.q rfl (q_pick_t rfl rfl) (by decide) ?_
    refine VD.q rfl (q_assign rfl) (by decide) ?_
    refine VD.mt (decide (0 ≤ y61_11)) [0, 1, 5, 51] (fun _ _ h => h) hS rfl
   replace hS := it_f h54 hS
   refine Zd ?_
   refine Zd ?_
   refine Zd ?_
   refine Zd ?_
   refine Zd ?_
   refine Zd ?_
   refine Zd ?_
   refine Zd ?_
   refine VD.q rfl (q_pick_f rfl rfl) (by decide) ?_
   refine VD.q rfl (q_assign rfl) (by decide) ?_
   refine VD.mt false [0, 1, 5, 51] (fun _ _ h => h) hS rfl
  clear hS
  rintro x51_8 hS
  show VC _ _ _ _ _ [(0, l_0.val), (1, i64 i_1), (5, ptr b5_2 0), (51, .bool x51_8)] (Mo.and Mo.tt _) (Ow.star (Blk b5_2 [str z9_1.path, i64 z9_1.stage, i64 z9_1.mode, str z9_1.data, i64 z9_1.time, i64 z9_1.size] 83) (Ow.emp))
  refine VC.cond rfl (fun h51 => ?_) (fun h51 => ?_)
  ·
   replace hS := it_t h51 hS
   refine VC.skip_mt x51_8 [0, 1, 5, 51] (fun _ _ h => h) hS rfl
  replace hS := it_b h51 hS
  refine Zr ?_
  refine Zm ?_
  refine Zm ?_
  obtain ⟨b66, hS⟩ := gd_s hS
  refine VL.sto Tryz.underlying29 gsz83 rfl rfl b66.1 (b66.2) (by decide) fun s66_12 hs66_12 => ?_
  replace hS := lt_to hs66_12 hS
  refine VL.q (q_mkfn rfl) (by decide) ?_
  obtain ⟨y68_14, ey68_14, hS⟩ := bd_s hS
  refine VL.q (q_callR (slices_ContainsFunc_index_Entry_index_Entry_v2_ct s66_12 b5_2 z9_1 ey68_14) rfl (fun _ _ => rfl)) (by decide) ?_
  refine Za ?_
  refine VL.mt y68_14 [0, 1, 5, 51] (fun _ _ h => h) hS rfl
 clear hS
 rintro x51_6 hS
 show VC _ _ _ _ _ [(0, l_0.val), (1, i64 i_1), (5, ptr b5_2 0), (51, .bool x51_6)] (Mo.and Mo.tt _) (Ow.star (Blk b5_2 [str z9_1.path, i64 z9_1.stage, i64 z9_1.mode, str z9_1.data, i64 z9_1.time, i64 z9_1.size] 83) (Ow.emp))
 refine VC.cond rfl (fun h51 => ?_) (fun h51 => ?_)
 ·
  replace hS := it_t h51 hS
  refine Zq (Zr ?_)
  refine Za ?_
  refine Zl ?_
  cases hS
  exact Ze
 replace hS := it_b h51 hS
 refine Zq (Zr ?_)
 refine Zm ?_
 refine Zm ?_
 obtain ⟨b72, hS⟩ := gd_s hS
 refine VL.sto Tryz.underlying29 gsz83 rfl rfl b72.1 (b72.2) (by decide) fun s72_15 hs72_15 => ?_
 replace hS := lt_to hs72_15 hS
 refine VL.q (q_mkfn rfl) (by decide) ?_
 obtain ⟨y74_17, ey74_17, hS⟩ := bd_s hS
 refine VL.q (q_callR (slices_ContainsFunc_index_Entry_index_Entry_v3_ct s72_15 b5_2 z9_1 ey74_17) rfl (fun _ _ => rfl)) (by decide) ?_
 refine Za ?_
 refine Zl ?_
 refine VC.cond rfl (fun h69 => ?_) (fun h69 => ?_)
 ·
  replace hS := it_t h69 hS
  refine Zq (Zr ?_)
  refine Za ?_
  refine Zl ?_
  refine VC.keep [4] rfl ?_
  cases hS
  exact Ze
 replace hS := it_b h69 hS
 refine Zk ?_
 refine Zq (Zr ?_)
 refine Za ?_
 refine Zl ?_
 refine VC.keep [4] rfl ?_
 cases hS
 exact Ze
end Go.Proofs.YtpmhinamcndmeaaGreatDoor
end
