/- Part of the proofs of: What another branch has beyond one's own is taken as it is, and the second time there is nothing to do, for every number of commits. -/
import Derived.Test.YtdfbpkpldjpioaaGreatDoorFD
set_option linter.unusedVariables false
set_option linter.unusedSimpArgs false
set_option linter.unusedSectionVars false
section
set_option linter.unusedVariables false
namespace Go.Proofs.YtdfbpkpldjpioaaGreatDoor
set_option maxHeartbeats 4000000
set_option maxRecDepth 100000
set_option synthInstance.maxSize 2000
set_option synthInstance.maxHeartbeats 1000000
open Go.RowKit Go.V
open Go.S hiding Str
theorem state_reader_end_ct (r_0_b : Nat) (r_0 : StateReader) (r_0_dec_b : Nat) (r_0_dec : CodecDec) {r : Err} (hS : Sh.state_reader_end r_0 r_0_dec.pl = some r) :
 Ct Tryz.prog 80 [ptr r_0_b 0] (r_0_dec.b.ok.and r_0_dec.err.ok) (Ow.star (Blk r_0_dec_b [r_0_dec.b.val, i64 r_0_dec.at_, r_0_dec.err.val] 218) (Blk r_0_b [ptr r_0_dec_b 0, .bool r_0.bad] 160)) (X := Er) (fun x => x.val) (fun x => r = x.pl) (fun x => x.ok) (fun x => Ow.star (Blk r_0_dec_b [r_0_dec.b.val, i64 r_0_dec.at_, r_0_dec.err.val] 218) (Blk r_0_b [ptr r_0_dec_b 0, .bool r_0.bad] 160)) := by
 refine Zo Tryz.func80 Tryz.ntmps80 fun c => ?_
 unfold Sh.state_reader_end at hS
 refine Zq (Zr ?_)
 refine Zy ?_
 refine Zq (Zb (Zq (Zr ?_)))
 refine Zm ?_
 refine Zu (q_nilCheck rfl) ?_
 refine Zu (q_field gfa160_0 rfl) ?_
 refine Zu (q_fe gone157 rfl rfl) ?_
 obtain ⟨y8_1, ey8_1, hS⟩ := bd_s hS
 refine VL.callO (codec_Dec_Err_ct r_0_dec_b r_0_dec ey8_1) rfl (by decide) ?_
 rintro q8_1_0 rfl
 try dsimp only
 refine Zu (q_erne Tryz.underlying45 rfl) ?_
 refine Zy ?_
 refine Zcn hS (fun h3 hS => ?_) (fun h3 hS => ?_)
 ·
  refine Zq ?_
  cases hS
 refine VC.cutJ (S := Bool) (fun (x15_2 : Bool) => x15_2) (fun (x15_2 : Bool) => [(15, .bool x15_2)]) (fun (x15_2 : Bool) => Mo.tt) (fun (x15_2 : Bool) => Ow.star (Blk r_0_dec_b [r_0_dec.b.val, i64 r_0_dec.at_, r_0_dec.err.val] 218) (Ow.star (Blk r_0_b [ptr r_0_dec_b 0, .bool r_0.bad] 160) (Ow.emp))) hS ?_ ?_
 ·
  clear hS
  intro k3 hS
  refine Zr ?_
  refine Zm ?_
  refine Zu (q_nilCheck rfl) ?_
  refine Zu (q_field gfa160_1 rfl) ?_
  refine Zu (q_fe gone4 rfl rfl) ?_
  refine Zm ?_
  refine Zspb 20 hS (fun h20 hS => ?_) (fun h20 hS => ?_)
  ·
   refine VL.skips 6 [26] (by kernel_rfl) ?_
   refine Zy ?_
   refine VL.mt true [15] (fun _ _ h => h) hS rfl
  refine Zg ?_
  refine Zh (q_nilCheck rfl) ?_
  refine Zh (q_field gfa160_0 rfl) ?_
  refine Zh (q_fe gone157 rfl rfl) ?_
  obtain ⟨y25_4, ey25_4, hS⟩ := bd_s hS
  refine Zh (q_callR (codec_Dec_Left_ct r_0_dec_b r_0_dec ey25_4) rfl (fun _ _ => rfl)) ?_
  refine Zh (q_gtr rfl rfl) ?_
  refine Zy ?_
  refine VL.mt (decide (0 < y25_4)) [15] (fun _ _ h => h) hS rfl
 clear hS
 rintro x15_2 hS
 refine Zcb hS (fun h15 hS => ?_) (fun h15 hS => ?_)
 ·
  refine Zq ?_
  cases hS
 refine Zk ?_
 refine Zq (Zr ?_)
 refine Zy ?_
 cases hS
 exact VC.ret (fin1 (.inr rfl) rfl rfl .nil rfl rfl (by (try dsimp only); exact InM.out) (by (try dsimp only); exact EntO.out))
theorem state_Decode_ct (b_0 : Sv UInt8) {r : StateStateP × Err} (hS : Sh.state_Decode b_0.l = some r) :
 Ct Tryz.prog 58 [b_0.val] b_0.ok (Ow.emp) (X := StateState × Er) (fun x => .tuple #[.agg (Dat.enc x.1).toArray, x.2.val]) (fun x => r = (x.1.pl, x.2.pl)) (fun x => (x.1.m.and x.2.ok)) (fun x => Ow.emp) := by
 refine Zo Tryz.func58 Tryz.ntmps58 fun c => ?_
 unfold Sh.state_Decode at hS
 refine Zq (Zr ?_)
 refine VL.alloc (cs := [.slice none 0 0, .slice none 0 0, .slice none 0 0, str [], i64 0, str [], i64 0, str [], .slice none 0 0, .slice none 0 0, i64 0, str [], str [], i64 0, .slice none 0 0, .slice none 0 0, .slice none 0 0, .slice none 0 0, .slice none 0 0, .slice none 0 0, i64 0]) (by kernel_rfl) (by decide) fun b2_1 => ?_
 refine Zy ?_
 refine Zq (Zr ?_)
 refine Zm ?_
 obtain ⟨y8_2, ey8_2, hS⟩ := bd_s hS
 refine VL.callO (codec_Of_ct b_0 ey8_2) rfl (by decide) ?_
 rintro ⟨q8_2_0, q8_2_1⟩ rfl
 try dsimp only
 refine Zu (q_build (vs := [(0, ptr q8_2_0 0)]) (cs := #[ptr q8_2_0 0, .bool false]) rfl (by kernel_rfl)) ?_
 refine VL.box (cs := [ptr q8_2_0 0, .bool false]) rfl rfl (by decide) fun b10_3 => ?_
 refine Zy ?_
 refine Zq (Zr ?_)
 refine Zm ?_
 obtain ⟨y12_4, ey12_4, hS⟩ := bd_s hS
 refine VL.callO (state_reader_state_ct b10_3 (⟨false⟩ : StateReader) q8_2_0 q8_2_1 ey12_4) rfl (by decide) ?_
 rintro ⟨q12_4_0, q12_4_1, q12_4_2⟩ rfl
 try dsimp only
 refine VL.alloc (cs := [.slice none 0 0, .slice none 0 0, .slice none 0 0, str [], i64 0, str [], i64 0, str [], .slice none 0 0, .slice none 0 0, i64 0, str [], str [], i64 0, .slice none 0 0, .slice none 0 0, .slice none 0 0, .slice none 0 0, .slice none 0 0, .slice none 0 0, i64 0]) (by kernel_rfl) (by decide) fun b5_5 => ?_
 refine Zv (vc := (zStateState q12_4_0)) (cs' := (zStateState q12_4_0)) rfl gsz41 ?_
 refine Zl ?_
 refine VC.keep (ρ' := [(2, ptr b2_1 0), (4, ptr b10_3 0), (5, ptr b5_5 0)]) [2, 4, 5] rfl ?_
 refine Zq (Zq (Zr ?_))
 refine Zm ?_
 obtain ⟨y14_6, ey14_6, hS⟩ := bd_s hS
 refine VL.callO (state_reader_end_ct b10_3 q12_4_2 q8_2_0 q12_4_1 ey14_6) rfl (by decide) ?_
 rintro q14_6_0 rfl
 try dsimp only
 refine Zy ?_
 refine Zq (Zr ?_)
 refine Zm ?_
 refine Zu (q_erne Tryz.underlying45 rfl) ?_
 refine Zl ?_
 refine Zcn hS (fun h16 hS => ?_) (fun h16 hS => ?_)
 ·
  refine Zq ?_
  cases hS
 refine Zk ?_
 refine Zq (Zr ?_)
 refine Zu (q_fes gagg41 rfl rfl) ?_
 refine Zv (vc := (zStateState q12_4_0)) (cs' := (zStateState q12_4_0)) rfl gsz41 ?_
 refine Zy ?_
 cases hS
 exact VC.ret (finG (vs := [.agg (zStateState q12_4_0).toArray, .nilIface]) (.inr rfl) rfl (RVs.cell gagg41 rfl rfl Rd.blk (RVs.tmp rfl (RVs.nil))) (q12_4_0, .nil) rfl rfl (by (try dsimp only); exact InM.out) (fun _ _ => trivial))
theorem repo_apart_ct (s_0 : StateState) {r : StateStateP} (hS : Sh.repo_apart s_0.pl = some r) :
 Ct Tryz.prog 31 [.agg (zStateState s_0).toArray] (s_0.now_work.ok.and (s_0.now_index.ok.and (s_0.now_refs.ok.and (s_0.now_seq_doing.ok.and (s_0.now_seq_todo.ok.and (s_0.now_seq_index.ok.and (s_0.now_seq_work.ok.and (s_0.now_stash.ok.and (s_0.commits.ok.and (s_0.log_back.ok.and s_0.log_forth.ok)))))))))) (Ow.emp) (X := StateState) (fun x => .agg (Dat.enc x).toArray) (fun x => r = x.pl) (fun x => x.m) (fun x => Ow.emp) := by
 refine Zo Tryz.func31 Tryz.ntmps31 fun c => ?_
 unfold Sh.repo_apart at hS
 refine Zq (Zr ?_)
 refine VL.box (cs := (zStateState s_0)) rfl rfl (by decide) fun b1_1 => ?_
 refine VL.alloc (cs := [.slice none 0 0, .slice none 0 0, .slice none 0 0, str [], i64 0, str [], i64 0, str [], .slice none 0 0, .slice none 0 0, i64 0, str [], str [], i64 0, .slice none 0 0, .slice none 0 0, .slice none 0 0, .slice none 0 0, .slice none 0 0, .slice none 0 0, i64 0]) (by kernel_rfl) (by decide) fun b2_2 => ?_
 refine Zl ?_
 refine Zq (Zr ?_)
 refine Zu (q_fes gagg41 rfl rfl) ?_
 obtain ⟨y7_3, ey7_3, hS⟩ := bd_s hS
 refine VL.callF (state_Encode_ct s_0 ey7_3) rfl (by decide) ?_
 rintro q7_3_0 rfl
 try dsimp only
 obtain ⟨y8_4, ey8_4, hS⟩ := bd_s hS
 refine VL.callF (state_Decode_ct q7_3_0 ey8_4) rfl (by decide) ?_
 rintro ⟨q8_4_0, q8_4_1⟩ rfl
 try dsimp only
 refine Zm ?_
 refine Zu (q_extract rfl rfl) ?_
 refine Zu (q_extract rfl rfl) ?_
 refine VL.alloc (cs := [.slice none 0 0, .slice none 0 0, .slice none 0 0, str [], i64 0, str [], i64 0, str [], .slice none 0 0, .slice none 0 0, i64 0, str [], str [], i64 0, .slice none 0 0, .slice none 0 0, .slice none 0 0, .slice none 0 0, .slice none 0 0, .slice none 0 0, i64 0]) (by kernel_rfl) (by decide) fun b3_5 => ?_
 refine Zv (vc := (zStateState q8_4_0)) (cs' := (zStateState q8_4_0)) rfl gsz41 ?_
 refine Zy ?_
 refine VC.keep (ρ' := [(1, ptr b1_1 0), (2, ptr b2_2 0), (3, ptr b3_5 0), (4, q8_4_1.val)]) [1, 2, 3, 4] rfl ?_
 refine Zq (Zq (Zr ?_))
 refine Zm ?_
 refine Zu (q_erne Tryz.underlying45 rfl) ?_
 refine Zl ?_
 refine Zcn hS (fun h12 hS => ?_) (fun h12 hS => ?_)
 ·
  refine Zq ?_
  cases hS
 refine Zk ?_
 refine Zq (Zr ?_)
 refine Zu (q_fes gagg41 rfl rfl) ?_
 refine Zv (vc := (zStateState q8_4_0)) (cs' := (zStateState q8_4_0)) rfl gsz41 ?_
 refine Zl ?_
 cases hS
 exact VC.ret (finG (vs := [.agg (zStateState q8_4_0).toArray]) (.inr rfl) rfl (RVs.cell gagg41 rfl rfl Rd.blk (RVs.nil)) q8_4_0 rfl rfl (by (try dsimp only); exact InM.out) (fun _ _ => trivial))
theorem insert75_ct (s v : Sv FilesFile) (i : Int) (hi : 0 ≤ i ∧ i ≤ (s.l.length : Int)) (hv : v.l ≠ []) (hb : s.l.length + v.l.length ≤ 4294967296) : Ct Tryz.prog 91 [s.val, i64 i, v.val] Mo.tt (Ow.star (s.own 75) (v.own 75)) (X := Sv FilesFile) (fun q => q.val) (fun q => q.l = s.l.take i.toNat ++ v.l ++ s.l.drop i.toNat) (fun _ => Mo.tt) (fun q => q.own 75) := by
 refine Zo Tryz.func91 Tryz.ntmps91 fun c => ?_
 have hvp : 0 < v.l.length := List.length_pos_iff.2 hv
 have hK : Dat.sz FilesFile = 3 := rfl
 refine Zq (Zr ?_)
 refine Zy ?_
 refine Zq (Zr ?_)
 refine Zy ?_
 refine VL.fits (s := s) (e := 75) Fo.out fun hf => ?_
 refine Zu (q_subv (s := s) Tryz.underlying24 gsz75 rfl rfl hi.1 hi.2 hf) ?_
 refine Zl ?_
 refine Zq (Zr ?_)
 refine Zm ?_
 refine Zu (q_ln (s := v) Tryz.underlying23 rfl) ?_
 refine Zy ?_
 refine Zq (Zq (Zr ?_))
 refine Zm ?_
 refine Zu (q_eql rfl rfl) ?_
 refine Zl ?_
 refine VC.cond_dec rfl (fun h16 => absurd h16 (by omega)) (fun h16 => ?_)
 refine Zk ?_
 refine Zq (Zr ?_)
 refine Zm ?_
 refine Zu (q_ln (s := s) Tryz.underlying24 rfl) ?_
 refine Zy ?_
 refine Zq (Zq (Zr ?_))
 refine Zy ?_
 refine Zu (q_eql rfl rfl) ?_
 refine Zl ?_
 refine VC.cond_dec rfl (fun h22 => ?_) (fun h22 => ?_)
 ·
  refine Zq (Zr ?_)
  refine Zy ?_
  refine VL.shut v 75 (fun _ _ _ _ => trivial) ?_
  refine VL.app2 (s := s) (r := v) Tryz.underlying24 Tryz.underlying23 gapp75 (by decide) rfl Fo.out (ap1 hb) (ap2 hb (by decide)) (by decide) (fun q hq => ?_)
  refine Zy ?_
  have e1 : i.toNat = s.l.length := by omega
  exact VC.ret (fin1 (.inr rfl) rfl rfl q rfl (by rw [hq, e1, List.take_length, List.drop_length, List.append_nil]) (fun _ _ => trivial) EntO.out)
 have hin : i < (s.l.length : Int) := by omega
 have hne : s.l ≠ [] := fun h => by rw [h] at hin; simp at hin; omega
 have hkq : (s.l.length : Int) + (v.l.length : Int) - i = ((s.l.length + v.l.length - i.toNat : Nat) : Int) := by omega
 have hLn : (s.l.take i.toNat ++ v.l ++ s.l.drop i.toNat).length = s.l.length + v.l.length := by simp only [List.length_append, List.length_take, List.length_drop]; omega
 have hfl : (s.l.take i.toNat ++ v.l ++ s.l.drop i.toNat).flatMap Dat.enc = (s.l.take i.toNat).flatMap Dat.enc ++ v.l.flatMap Dat.enc ++ (s.l.drop i.toNat).flatMap Dat.enc := by rw [List.flatMap_append, List.flatMap_append]
 have lA : ((s.l.take i.toNat).flatMap Dat.enc).length = i.toNat * 3 := by rw [enc_len, List.length_take, hK, Nat.min_eq_left (by omega)]
 have lV : (v.l.flatMap Dat.enc).length = v.l.length * 3 := by rw [enc_len, hK]
 have lS : ((s.l.drop i.toNat).flatMap Dat.enc).length = (s.l.length - i.toNat) * 3 := by rw [enc_len, List.length_drop, hK]
 refine Zk ?_
 refine Zq (Zq (Zr ?_))
 refine Zy ?_
 refine Zu (q_add rfl rfl ⟨by omega, by omega⟩) ?_
 refine Zm ?_
 refine Zu (q_capV (a0 := s.a) (L := s.l.length) (C := s.c) Tryz.underlying24 rfl) ?_
 refine Zu (q_gtr rfl rfl) ?_
 refine Zl ?_
 refine VC.cond_dec rfl (fun h31 => ?_) (fun h31 => ?_)
 ·
  refine VC.shut s 75 (fun _ _ _ _ => trivial) ?_
  refine VC.shut v 75 (fun _ _ _ _ => trivial) ?_
  refine Zq (Zr ?_)
  refine VL.factM (φ := s.a = some ⟨s.b, s.o, none⟩) (fun h m => (InM.out (X := s.ok) h m).2.2.1 hne) fun hsa => ?_
  refine VL.factM (φ := v.a = some ⟨v.b, v.o, none⟩) (fun h m => (InM.out (X := v.ok) h m).2.2.1 hv) fun hva => ?_
  refine Zy ?_
  refine Zu (q_toV (a0 := s.a) (L := s.l.length) (C := s.c) (K := 3) Tryz.underlying24 gsz75 rfl rfl hi.1 (by omega)) ?_
  refine Zy ?_
  refine Zu (q_add rfl rfl ⟨by omega, by omega⟩) ?_
  refine Zm ?_
  refine Zu (q_sub rfl rfl ⟨by omega, by omega⟩) ?_
  refine VL.setv 39 rfl (congrArg (Value.int .i64) hkq) ?_
  refine VL.appZg (s := s) (L := i.toNat) (kq := s.l.length + v.l.length - i.toNat) Tryz.underlying24 Tryz.underlying3 gapp75 (by decide) rfl hne (by omega) (by omega) (by omega) (by omega) (by decide) (by decide) fun g cs cp hcl hcp hcm hct => ?_
  rw [hK] at hcl hct
  rw [show i.toNat + (s.l.length + v.l.length - i.toNat) = s.l.length + v.l.length by omega] at hcp ⊢
  have hfit : ((s.l.take i.toNat).flatMap Dat.enc).length + (v.l.flatMap Dat.enc).length + ((s.l.drop i.toNat).flatMap Dat.enc).length ≤ cs.length := by
    rw [lA, lV, lS, hcl, ← Nat.add_mul, ← Nat.add_mul]; exact Nat.mul_le_mul_right _ (by omega)
  have hic := ins_cells1 (V := v.l.flatMap Dat.enc) (S := (s.l.drop i.toNat).flatMap Dat.enc) (by rw [lA]; exact hct) hfit
  rw [← hfl, lA, lV, lS] at hic
  refine Zy ?_
  refine Zq (Zr ?_)
  refine Zy ?_
  refine Zu (q_fromV (b := g) (o := 0) (L := s.l.length + v.l.length) (C := cp) (K := 3) Tryz.underlying24 gsz75 rfl rfl hi.1 (by omega) hcp (by omega) rfl) ?_
  refine Zm ?_
  refine VL.setv 44 rfl (show v.val = .slice (some ⟨v.b, v.o + 0 * Dat.sz FilesFile, none⟩) v.l.length v.c by unfold Sv.val; rw [hva, Nat.zero_mul]; rfl) ?_
  refine VL.copyB (src := v.l.flatMap Dat.enc) Tryz.underlying24 gsz75 UpdB.out rfl (by rw [lV]; congr 1; exact (Nat.min_eq_left (by omega)).symm) (ok_src0 (r := v) (by decide) hv) (enc_one1 v.l) (by rw [lV, Nat.zero_add, hcl, ← Nat.add_mul]; exact Nat.mul_le_mul_right _ (by omega)) (by decide) ?_
  rw [Nat.zero_add, lV]
  refine Zl ?_
  refine Zq ?_
  refine VC.draw [(0, true), (1, true), (2, true), (3, true), (4, true), (5, true), (6, true), (7, true), (8, false)] mixed (by kernel_rfl) (by kernel_rfl) (by kernel_rfl) ?_
  refine Zw rfl (q_move rfl) ?_
  refine Zw rfl (q_move rfl) ?_
  refine Zw rfl (q_move rfl) ?_
  refine Zw rfl (q_add rfl rfl ⟨by omega, by omega⟩) ?_
  refine Zw rfl (q_fromV (b := g) (o := 0) (L := s.l.length + v.l.length) (C := cp) (K := 3) Tryz.underlying24 gsz75 rfl rfl (by omega) (by omega) hcp (by omega) rfl) ?_
  refine Zw rfl (q_move rfl) ?_
  refine Zw rfl (q_move rfl) ?_
  refine Zw rfl (q_fromV (b := s.b) (o := s.o) (L := s.l.length) (C := s.c) (K := 3) Tryz.underlying24 gsz75 (show some s.val = _ by unfold Sv.val; rw [hsa]) rfl hi.1 (by omega) hf (by omega) rfl) ?_
  refine VD.one rfl ?_
  rw [show (i + (v.l.length : Int)).toNat = i.toNat + v.l.length by omega]
  refine VL.copyB (src := (s.l.drop i.toNat).flatMap Dat.enc) Tryz.underlying24 gsz75 UpdB.out rfl (by rw [lS]; congr 1; exact (Nat.min_eq_left (by omega)).symm) (ok_srcK (r := s) (by decide) hne i.toNat) (enc_one1 _) (by rw [lS, Nat.zero_add, hic.1, hcl, ← Nat.add_mul]; exact Nat.mul_le_mul_right _ (by omega)) (by decide) ?_
  rw [Nat.zero_add, lS, Nat.add_mul]
  refine VL.back (D' := []) (by kernel_rfl) Pend.nil ?_
  refine VD.to (fun _ _ h => h) ?_
  refine Zq (Zr ?_)
  refine Zy ?_
  have ho := fun F => own_blk (F := F) (e := 75) (b := g) (l' := s.l.take i.toNat ++ v.l ++ s.l.drop i.toNat) (hic.2.1.trans hcl) (by rw [enc_len] at hic; exact hic.2.2) hLn hcp hcm
  exact VC.ret (fin1 (.inr rfl) rfl rfl ⟨some ⟨g, 0, none⟩, cp, _⟩ (ho Ow.emp).1 rfl (fun _ _ => trivial) (ho _).2)
 refine Zk ?_
 refine Zq (Zr ?_)
 refine VL.open (s := s) (e := 75) Fo.out (by omega) fun b cs hsa hcl hct _ hcm => ?_
 rw [hK] at hcl hct
 have hctA : cs.take ((s.l.take i.toNat).flatMap Dat.enc).length = (s.l.take i.toNat).flatMap Dat.enc := by
   rw [lA]
   have : cs.take (i.toNat * 3) = (cs.take (s.l.length * 3)).take (i.toNat * 3) := by rw [List.take_take, Nat.min_eq_left (Nat.mul_le_mul_right _ (by omega))]
   rw [this, hct]
   exact flatMap_take s.l i.toNat
 have hfit : ((s.l.take i.toNat).flatMap Dat.enc).length + (v.l.flatMap Dat.enc).length + ((s.l.drop i.toNat).flatMap Dat.enc).length ≤ cs.length := by
   rw [lA, lV, lS, hcl, ← Nat.add_mul, ← Nat.add_mul]; exact Nat.mul_le_mul_right _ (by omega)
 have hic := ins_cells2 (V := v.l.flatMap Dat.enc) (S := (s.l.drop i.toNat).flatMap Dat.enc) hctA hfit
 rw [← hfl, lA, lV, lS] at hic
 refine Zy ?_
 refine Zu (q_add rfl rfl ⟨by omega, by omega⟩) ?_
 refine Zu (q_toV (a0 := s.a) (L := s.l.length) (C := s.c) (K := 3) Tryz.underlying24 gsz75 rfl rfl (by omega) (by omega)) ?_
 rw [show ((s.l.length : Int) + (v.l.length : Int)).toNat = s.l.length + v.l.length by omega, hsa]
 refine Zy ?_
 refine Zq (Zq (Zr ?_))
 refine Zy ?_
 refine Zu (q_add rfl rfl ⟨by omega, by omega⟩) ?_
 refine Zu (q_fromV (b := b) (o := 0) (L := s.l.length + v.l.length) (C := s.c) (K := 3) Tryz.underlying24 gsz75 rfl rfl (by omega) (by omega) (by omega) (by omega) rfl) ?_
 refine Zu (q_overlaps (tS := 23) (tR := 4) (s := v) (b := b) Tryz.func170 rfl rfl (by kernel_rfl) (by kernel_rfl) Tryz.underlying23 gsz75 rfl UpdB.out (fun h => by rw [h] at hcl; simp at hcl; omega) hv) ?_
 refine Zu (q_not rfl) ?_
 refine Zl ?_
 refine VC.cond_t rfl ?_
 refine VC.shut v 75 (fun _ _ _ _ => trivial) ?_
 refine Zq ?_
 refine VC.draw [(0, true), (1, true), (2, true), (3, true), (4, true), (5, true), (6, true), (7, true), (8, false)] mixed (by kernel_rfl) (by kernel_rfl) (by kernel_rfl) ?_
 refine Zw rfl (q_move rfl) ?_
 refine Zw rfl (q_move rfl) ?_
 refine Zw rfl (q_move rfl) ?_
 refine Zw rfl (q_add rfl rfl ⟨by omega, by omega⟩) ?_
 refine Zw rfl (q_fromV (b := b) (o := 0) (L := s.l.length + v.l.length) (C := s.c) (K := 3) Tryz.underlying24 gsz75 rfl rfl (by omega) (by omega) (by omega) (by omega) rfl) ?_
 refine Zw rfl (q_move rfl) ?_
 refine Zw rfl (q_move rfl) ?_
 refine Zw rfl (q_fromV (b := b) (o := 0) (L := s.l.length + v.l.length) (C := s.c) (K := 3) Tryz.underlying24 gsz75 rfl rfl hi.1 (by omega) (by omega) (by omega) rfl) ?_
 refine VD.one rfl ?_
 rw [show (i + (v.l.length : Int)).toNat = i.toNat + v.l.length by omega, Nat.zero_add, Nat.zero_add]
 refine VL.copyB (src := (s.l.drop i.toNat).flatMap Dat.enc) Tryz.underlying24 gsz75 UpdB.out rfl (by rw [lS]; congr 1; simp only [Nat.min_def]; split <;> omega) (blk_src (n := s.l.length) hct rfl) (enc_one1 _) (by rw [lS, hcl, ← Nat.add_mul]; exact Nat.mul_le_mul_right _ (by omega)) (by decide) ?_
 rw [lS, Nat.add_mul]
 refine VL.back (D' := []) (by kernel_rfl) Pend.nil ?_
 refine VD.to (fun _ _ h => h) ?_
 refine Zq (Zr ?_)
 refine Zy ?_
 refine Zu (q_fromV (b := b) (o := 0) (L := s.l.length + v.l.length) (C := s.c) (K := 3) Tryz.underlying24 gsz75 rfl rfl hi.1 (by omega) (by omega) (by omega) rfl) ?_
 refine Zm ?_
 refine VL.factM (φ := v.a = some ⟨v.b, v.o, none⟩) (fun h m => (InM.out (X := v.ok) h m).2.2.1 hv) fun hva => ?_
 refine VL.setv 81 rfl (show v.val = .slice (some ⟨v.b, v.o + 0 * Dat.sz FilesFile, none⟩) v.l.length v.c by unfold Sv.val; rw [hva, Nat.zero_mul]; rfl) ?_
 rw [Nat.zero_add]
 refine VL.copyB (src := v.l.flatMap Dat.enc) Tryz.underlying24 gsz75 UpdB.out rfl (by rw [lV]; congr 1; exact (Nat.min_eq_left (by omega)).symm) (ok_src0 (r := v) (by decide) hv) (enc_one1 v.l) (by rw [lV, hic.1, hcl, ← Nat.add_mul]; exact Nat.mul_le_mul_right _ (by omega)) (by decide) ?_
 rw [lV]
 refine Zl ?_
 refine Zq (Zr ?_)
 refine Zy ?_
 have ho := fun F => own_blk (F := F) (e := 75) (b := b) (l' := s.l.take i.toNat ++ v.l ++ s.l.drop i.toNat) (hic.2.1.trans hcl) (by rw [enc_len] at hic; exact hic.2.2) hLn (by omega) hcm
 exact VC.ret (fin1 (.inr rfl) rfl rfl ⟨some ⟨b, 0, none⟩, s.c, _⟩ (ho Ow.emp).1 rfl (fun _ _ => trivial) (ho _).2)
theorem files_Row_Put_ct (r_0 : Sv FilesFile) (f_1 : FilesFile) {r : List FilesFile} (hS : Sh.files_Row_Put r_0.l f_1 = some r) :
 Ct Tryz.prog 48 [r_0.val, .agg #[str f_1.path, i64 f_1.mode, str f_1.data]] r_0.ok (Ow.emp) (X := Sv FilesFile) (fun x => x.val) (fun x => r = x.l) (fun x => x.ok) (fun x => Ow.emp) := by
 refine Zo Tryz.func48 Tryz.ntmps48 fun c => ?_
 unfold Sh.files_Row_Put at hS
 refine Zq (Zr ?_)
 refine VL.box (cs := [str f_1.path, i64 f_1.mode, str f_1.data]) rfl rfl (by decide) fun b3_1 => ?_
 refine Zy ?_
 refine Zq (Zr ?_)
 refine Zm ?_
 obtain ⟨y9_2, ey9_2, hS⟩ := bd_s hS
 refine VL.callO (slices_Clone_files_Row_files_File_ct r_0 ey9_2) rfl (by decide) ?_
 rintro q9_2_0 rfl
 try dsimp only
 refine Zy ?_
 refine Zq (Zr ?_)
 refine Zm ?_
 refine Zu (q_field gfa75_0 rfl) ?_
 refine Zu (q_fe gone9 rfl rfl) ?_
 obtain ⟨y14_3, ey14_3, hS⟩ := bd_s hS
 refine Zu (q_call (files_Row_find_ct r_0 f_1.path ey14_3) rfl (fun _ _ => rfl)) ?_
 refine Zm ?_
 refine Zu (q_extract rfl rfl) ?_
 refine Zu (q_extract rfl rfl) ?_
 refine Zy ?_
 refine VC.keep (ρ' := [(3, ptr b3_1 0), (5, q9_2_0.val), (6, i64 y14_3.1), (7, .bool y14_3.2)]) [3, 5, 6, 7] rfl ?_
 refine Zq (Zq (Zr ?_))
 refine Zy ?_
 refine Zcb hS (fun h17 hS => ?_) (fun h17 hS => ?_)
 ·
  refine Zq (Zr ?_)
  refine Zy ?_
  refine Zu (q_fes gagg75 rfl rfl) ?_
  obtain ⟨z21_4, nz21_4, hz21_4, hS⟩ := at_s hS
  refine Zu (q_ixo (s := q9_2_0) Tryz.underlying24 gsz75 rfl rfl nz21_4 (lt_of_get nz21_4 hz21_4)) ?_
  refine VL.storeE (s := q9_2_0) (T := 75) (j := 0) (vc := [str f_1.path, i64 f_1.mode, str f_1.data]) (⟨f_1.path, f_1.mode, f_1.data⟩ : FilesFile) (by decide) rfl rfl hz21_4 rfl gsz75 rfl rfl (Nat.le_of_ble_eq_true rfl) rfl (fun w5 hw5 haw5 hcw5 hvw5 hbw5 how5 => ?_)
  rw [← hvw5]
  replace hS := lt_to hw5 hS
  refine Zl ?_
  refine Zq (Zr ?_)
  refine Zm ?_
  refine VL.shut w5 75 (fun _ _ _ _ => trivial) ?_
  obtain ⟨y23_7, ey23_7, hS⟩ := bd_s hS
  refine VL.callF (slices_Clip_files_Row_files_File_ct w5 ey23_7) rfl (by decide) ?_
  rintro q23_7_0 rfl
  try dsimp only
  refine Zy ?_
  refine VC.keep (ρ' := [(4, q23_7_0.val)]) [4] rfl ?_
  cases hS
  exact VC.ret (fin1 (.inr rfl) rfl rfl q23_7_0 rfl rfl (by (try dsimp only); exact InM.out) (fun _ _ => trivial))
 refine Zk ?_
 refine Zq (Zr ?_)
 refine Zy ?_
 refine Zu (q_fes gagg75 rfl rfl) ?_
 refine VL.litO (α := FilesFile) (xs := [.tmp 26]) (vs := [.agg #[str f_1.path, i64 f_1.mode, str f_1.data]]) [⟨f_1.path, f_1.mode, f_1.data⟩] Tryz.underlying23 glit75 (by decide) rfl rfl rfl rfl (by decide) (by decide) (fun s27_8 hs27_8 => ?_) (by decide)
 replace hS := lt_to hs27_8 hS
 obtain ⟨b28, hS⟩ := gd_s hS
 refine VL.callO (insert75_ct q9_2_0 s27_8 y14_3.1 b28.1 b28.2.1 b28.2.2) rfl (by decide) ?_
 intro s28_10 hs28_10
 replace hS := lt_to hs28_10 hS
 refine VL.shut s28_10 75 (fun _ _ _ _ => trivial) ?_
 obtain ⟨y29_12, ey29_12, hS⟩ := bd_s hS
 refine VL.callF (slices_Clip_files_Row_files_File_ct s28_10 ey29_12) rfl (by decide) ?_
 rintro q29_12_0 rfl
 try dsimp only
 refine Zy ?_
 refine VC.keep (ρ' := [(4, q29_12_0.val)]) [4] rfl ?_
 cases hS
 exact VC.ret (fin1 (.inr rfl) rfl rfl q29_12_0 rfl rfl (by (try dsimp only); exact InM.out) (fun _ _ => trivial))
theorem repo_Write_ct (s_0 : StateState) (p_1 : Str) (mode_2 : Int) (data_3 : Str) {r : StateStateP × Err} (hS : Sh.repo_Write s_0.pl p_1 mode_2 data_3 = some r) :
 Ct Tryz.prog 24 [.agg (zStateState s_0).toArray, str p_1, i64 mode_2, str data_3] (s_0.now_work.ok.and (s_0.now_index.ok.and (s_0.now_refs.ok.and (s_0.now_seq_doing.ok.and (s_0.now_seq_todo.ok.and (s_0.now_seq_index.ok.and (s_0.now_seq_work.ok.and (s_0.now_stash.ok.and (s_0.commits.ok.and (s_0.log_back.ok.and s_0.log_forth.ok)))))))))) (Ow.emp) (X := StateState × Er) (fun x => .tuple #[.agg (Dat.enc x.1).toArray, x.2.val]) (fun x => r = (x.1.pl, x.2.pl)) (fun x => (x.1.m.and x.2.ok)) (fun x => Ow.emp) := by
 refine Zo Tryz.func24 Tryz.ntmps24 fun c => ?_
 unfold Sh.repo_Write at hS
 refine Zq (Zr ?_)
 refine VL.box (cs := (zStateState s_0)) rfl rfl (by decide) fun b4_1 => ?_
 refine VL.alloc (cs := [.slice none 0 0, .slice none 0 0, .slice none 0 0, str [], i64 0, str [], i64 0, str [], .slice none 0 0, .slice none 0 0, i64 0, str [], str [], i64 0, .slice none 0 0, .slice none 0 0, .slice none 0 0, .slice none 0 0, .slice none 0 0, .slice none 0 0, i64 0]) (by kernel_rfl) (by decide) fun b8_2 => ?_
 refine Zy ?_
 refine Zq (Zr ?_)
 refine Zy ?_
 refine Zu (q_build (vs := [(0, str p_1), (1, i64 mode_2), (2, str data_3)]) (cs := #[str p_1, i64 mode_2, str data_3]) rfl (by kernel_rfl)) ?_
 refine VL.alloc (cs := [str [], i64 0, str []]) (by kernel_rfl) (by decide) fun b10_3 => ?_
 refine Zv (vc := [str p_1, i64 mode_2, str data_3]) (cs' := [str p_1, i64 mode_2, str data_3]) rfl gsz75 ?_
 refine Zl ?_
 refine VC.keep (ρ' := [(1, str p_1), (4, ptr b4_1 0), (8, ptr b8_2 0), (10, ptr b10_3 0)]) [1, 4, 8, 10] rfl ?_
 refine Zq (Zr ?_)
 refine Zu (q_field gfa41_0 rfl) ?_
 refine Zu (q_field gfa35_0 rfl) ?_
 refine Zu (q_fe gone24 rfl rfl) ?_
 refine Zm ?_
 obtain ⟨y24_4, ey24_4, hS⟩ := bd_s hS
 refine Zu (q_call (files_Row_Get_ct s_0.now_work p_1 ey24_4) rfl (fun _ _ => rfl)) ?_
 refine Zm ?_
 refine Zu (q_extract rfl rfl) ?_
 refine Zu (q_extract rfl rfl) ?_
 refine VL.alloc (cs := [str [], i64 0, str []]) (by kernel_rfl) (by decide) fun b11_5 => ?_
 refine Zv (vc := [str y24_4.1.path, i64 y24_4.1.mode, str y24_4.1.data]) (cs' := [str y24_4.1.path, i64 y24_4.1.mode, str y24_4.1.data]) rfl gsz75 ?_
 refine Zy ?_
 refine VC.keep (ρ' := [(1, str p_1), (4, ptr b4_1 0), (8, ptr b8_2 0), (10, ptr b10_3 0), (12, .bool y24_4.2)]) [1, 4, 8, 10, 12] rfl ?_
 refine Zq (Zr ?_)
 refine Zu (q_fes gagg75 rfl rfl) ?_
 refine VL.lit (α := FilesFile) (xs := [.tmp 27]) (vs := [.agg #[str p_1, i64 mode_2, str data_3]]) [⟨p_1, mode_2, data_3⟩] Tryz.underlying24 glit75 (by decide) rfl rfl rfl rfl (by decide) (fun _ _ _ _ => trivial) (by decide) (fun s28_6 hs28_6 => ?_) (by decide)
 replace hS := lt_to hs28_6 hS
 obtain ⟨y29_8, ey29_8, hS⟩ := bd_s hS
 refine VL.callF (files_Row_Check_ct s28_6 ey29_8) rfl (by decide) ?_
 rintro q29_8_0 rfl
 try dsimp only
 obtain ⟨y30_9, ey30_9, hS⟩ := bd_s hS
 refine VL.callF (repo_last_ct q29_8_0 ey30_9) rfl (by decide) ?_
 rintro q30_9_0 rfl
 try dsimp only
 refine Zy ?_
 refine VC.cutJ (S := Unit) (fun (_ : Unit) => ()) (fun (_ : Unit) => [(4, ptr b4_1 0), (8, ptr b8_2 0), (10, ptr b10_3 0), (13, q30_9_0.val)]) (fun (_ : Unit) => Mo.tt) (fun (_ : Unit) => Ow.star (Blk b11_5 [str y24_4.1.path, i64 y24_4.1.mode, str y24_4.1.data] 75) (Ow.star (Blk b10_3 [str p_1, i64 mode_2, str data_3] 75) (Ow.star (Blk b8_2 [.slice none 0 0, .slice none 0 0, .slice none 0 0, str [], i64 0, str [], i64 0, str [], .slice none 0 0, .slice none 0 0, i64 0, str [], str [], i64 0, .slice none 0 0, .slice none 0 0, .slice none 0 0, .slice none 0 0, .slice none 0 0, .slice none 0 0, i64 0] 41) (Ow.star (Blk b4_1 (zStateState s_0) 41) (Ow.emp))))) hS ?_ ?_
 ·
  clear hS
  intro k10 hS
  refine Zb (Zq (Zr ?_))
  refine Zm ?_
  refine Zu (q_erne Tryz.underlying45 rfl) ?_
  refine Zy ?_
  refine Zcn hS (fun h31 hS => ?_) (fun h31 hS => ?_)
  ·
   refine VC.skip_mt () [4, 8, 10, 13] (fun _ _ h => h) hS rfl
  refine Zq ?_
  refine VC.draw [(0, true), (1, true), (2, true), (3, true), (6, true), (7, true), (8, true), (9, true), (4, false), (5, true), (10, true), (11, true)] mixed (by kernel_rfl) (by kernel_rfl) (by kernel_rfl) ?_
  refine Zw rfl (q_field gfa41_0 rfl) ?_
  refine Zw rfl (q_field gfa35_0 rfl) ?_
  refine Zw rfl (q_fe gone24 rfl rfl) ?_
  refine Zw rfl (q_move rfl) ?_
  refine Zw rfl (q_field gfa41_0 rfl) ?_
  refine Zw rfl (q_field gfa35_0 rfl) ?_
  refine Zw rfl (q_fe gone24 rfl rfl) ?_
  refine Zw rfl (q_ln (s := s_0.now_work) Tryz.underlying24 rfl) ?_
  refine VD.one rfl ?_
  obtain ⟨y39_11, ey39_11, hS⟩ := bd_s hS
  refine VL.callF (files_Row_Clear_ct s_0.now_work p_1 ey39_11) rfl (by decide) ?_
  rintro q39_11_0 rfl
  try dsimp only
  refine VL.back (D' := [(9, i64 (s_0.now_work.l.length : Int)), (8, s_0.now_work.val), (7, ptr b4_1 0), (6, ptr b4_1 0)]) (by kernel_rfl) (Pend.cons rfl (q_ln (s := s_0.now_work) Tryz.underlying24 rfl) (Pend.cons rfl (q_fe gone24 rfl rfl) (Pend.cons rfl (q_field gfa35_0 rfl) (Pend.cons rfl (q_field gfa41_0 rfl) (Pend.nil))))) ?_
  refine Zw rfl (q_ln (s := q39_11_0) Tryz.underlying24 rfl) ?_
  refine Zw rfl (q_lss rfl rfl) ?_
  refine Zw rfl (q_assign rfl) ?_
  refine VD.to (fun _ _ h => h) ?_
  refine VC.keep (ρ' := [(4, ptr b4_1 0), (8, ptr b8_2 0), (10, ptr b10_3 0), (12, .bool y24_4.2), (13, q30_9_0.val), (34, .bool (decide ((q39_11_0.l.length : Int) < (s_0.now_work.l.length : Int))))]) [4, 8, 10, 12, 13, 34] rfl ?_
  refine Zc hS (fun h34 hS => ?_) (fun h34 hS => ?_)
  ·
   cases hS
  refine VC.cutJ (S := Bool) (fun (x47_12 : Bool) => x47_12) (fun (x47_12 : Bool) => [(4, ptr b4_1 0), (8, ptr b8_2 0), (10, ptr b10_3 0), (13, q30_9_0.val), (47, .bool x47_12)]) (fun (x47_12 : Bool) => Mo.tt) (fun (x47_12 : Bool) => Ow.star (Blk b11_5 [str y24_4.1.path, i64 y24_4.1.mode, str y24_4.1.data] 75) (Ow.star (Blk b10_3 [str p_1, i64 mode_2, str data_3] 75) (Ow.star (Blk b8_2 [.slice none 0 0, .slice none 0 0, .slice none 0 0, str [], i64 0, str [], i64 0, str [], .slice none 0 0, .slice none 0 0, i64 0, str [], str [], i64 0, .slice none 0 0, .slice none 0 0, .slice none 0 0, .slice none 0 0, .slice none 0 0, .slice none 0 0, i64 0] 41) (Ow.star (Blk b4_1 (zStateState s_0) 41) (Ow.emp))))) hS ?_ ?_
  ·
   clear hS
   intro k13 hS
   refine Zr ?_
   refine Zm ?_
   refine Zu (q_not rfl) ?_
   refine Zm ?_
   refine Zspb 50 hS (fun h50 hS => ?_) (fun h50 hS => ?_)
   ·
    refine Zh (q_field gfa41_0 rfl) ?_
    refine Zh (q_field gfa35_0 rfl) ?_
    refine Zh (q_fe gone24 rfl rfl) ?_
    refine Zh (q_ln (s := s_0.now_work) Tryz.underlying24 rfl) ?_
    refine Zh (q_geq rfl rfl) ?_
    refine Zy ?_
    refine VL.mt (decide (64 ≤ (s_0.now_work.l.length : Int))) [4, 8, 10, 13, 47] (fun _ _ h => h) hS rfl
   refine VL.skips 5 [55] (by kernel_rfl) ?_
   refine Zy ?_
   refine VL.mt false [4, 8, 10, 13, 47] (fun _ _ h => h) hS rfl
  clear hS
  rintro x47_12 hS
  refine Zcb hS (fun h47 hS => ?_) (fun h47 hS => ?_)
  ·
   cases hS
  refine VC.skip_mt () [4, 8, 10, 13] (fun _ _ h => h) hS rfl
 clear hS
 rintro _ hS
 refine Zq (Zq (Zr ?_))
 refine Zm ?_
 refine Zu (q_erne Tryz.underlying45 rfl) ?_
 refine Zl ?_
 refine Zcn hS (fun h59 hS => ?_) (fun h59 hS => ?_)
 ·
  refine Zq ?_
  cases hS
 refine Zk ?_
 refine Zq (Zr ?_)
 refine Zu (q_fes gagg41 rfl rfl) ?_
 obtain ⟨y67_14, ey67_14, hS⟩ := bd_s hS
 refine VL.callF (repo_apart_ct s_0 ey67_14) rfl (by decide) ?_
 rintro q67_14_0 rfl
 try dsimp only
 refine VL.alloc (cs := [.slice none 0 0, .slice none 0 0, .slice none 0 0, str [], i64 0, str [], i64 0, str [], .slice none 0 0, .slice none 0 0, i64 0, str [], str [], i64 0, .slice none 0 0, .slice none 0 0, .slice none 0 0, .slice none 0 0, .slice none 0 0, .slice none 0 0, i64 0]) (by kernel_rfl) (by decide) fun b14_15 => ?_
 refine Zv (vc := (zStateState q67_14_0)) (cs' := (zStateState q67_14_0)) rfl gsz41 ?_
 refine Zl ?_
 refine Zq (Zr ?_)
 refine Zu (q_field gfa41_0 rfl) ?_
 refine Zu (q_field gfa35_0 rfl) ?_
 refine Zu (q_fe gone24 rfl rfl) ?_
 refine Zu (q_fes gagg75 rfl rfl) ?_
 obtain ⟨y72_16, ey72_16, hS⟩ := bd_s hS
 refine VL.callF (files_Row_Put_ct q67_14_0.now_work (⟨p_1, mode_2, data_3⟩ : FilesFile) ey72_16) rfl (by decide) ?_
 rintro q72_16_0 rfl
 try dsimp only
 refine Zu (q_field gfa41_0 rfl) ?_
 refine Zu (q_field gfa35_0 rfl) ?_
 refine Zv (vc := [q72_16_0.val]) (cs' := [q72_16_0.val, q67_14_0.now_index.val, q67_14_0.now_refs.val, str q67_14_0.now_head_branch, i64 q67_14_0.now_head_commit, str q67_14_0.now_seq_kind, i64 q67_14_0.now_seq_other, str q67_14_0.now_seq_text, q67_14_0.now_seq_doing.val, q67_14_0.now_seq_todo.val, i64 q67_14_0.now_seq_made, str q67_14_0.now_seq_branch, str q67_14_0.now_seq_head_branch, i64 q67_14_0.now_seq_head_commit, q67_14_0.now_seq_index.val, q67_14_0.now_seq_work.val, q67_14_0.now_stash.val, q67_14_0.commits.val, q67_14_0.log_back.val, q67_14_0.log_forth.val, i64 q67_14_0.time]) rfl gsz24 ?_
 refine Zl ?_
 refine VC.keep (ρ' := [(8, ptr b8_2 0), (14, ptr b14_15 0)]) [8, 14] rfl ?_
 refine Zq (Zr ?_)
 refine Zu (q_fes gagg41 rfl rfl) ?_
 refine Zv (vc := [q72_16_0.val, q67_14_0.now_index.val, q67_14_0.now_refs.val, str q67_14_0.now_head_branch, i64 q67_14_0.now_head_commit, str q67_14_0.now_seq_kind, i64 q67_14_0.now_seq_other, str q67_14_0.now_seq_text, q67_14_0.now_seq_doing.val, q67_14_0.now_seq_todo.val, i64 q67_14_0.now_seq_made, str q67_14_0.now_seq_branch, str q67_14_0.now_seq_head_branch, i64 q67_14_0.now_seq_head_commit, q67_14_0.now_seq_index.val, q67_14_0.now_seq_work.val, q67_14_0.now_stash.val, q67_14_0.commits.val, q67_14_0.log_back.val, q67_14_0.log_forth.val, i64 q67_14_0.time]) (cs' := [q72_16_0.val, q67_14_0.now_index.val, q67_14_0.now_refs.val, str q67_14_0.now_head_branch, i64 q67_14_0.now_head_commit, str q67_14_0.now_seq_kind, i64 q67_14_0.now_seq_other, str q67_14_0.now_seq_text, q67_14_0.now_seq_doing.val, q67_14_0.now_seq_todo.val, i64 q67_14_0.now_seq_made, str q67_14_0.now_seq_branch, str q67_14_0.now_seq_head_branch, i64 q67_14_0.now_seq_head_commit, q67_14_0.now_seq_index.val, q67_14_0.now_seq_work.val, q67_14_0.now_stash.val, q67_14_0.commits.val, q67_14_0.log_back.val, q67_14_0.log_forth.val, i64 q67_14_0.time]) rfl gsz41 ?_
 refine Zy ?_
 cases hS
 exact VC.ret (finG (vs := [.agg #[q72_16_0.val, q67_14_0.now_index.val, q67_14_0.now_refs.val, str q67_14_0.now_head_branch, i64 q67_14_0.now_head_commit, str q67_14_0.now_seq_kind, i64 q67_14_0.now_seq_other, str q67_14_0.now_seq_text, q67_14_0.now_seq_doing.val, q67_14_0.now_seq_todo.val, i64 q67_14_0.now_seq_made, str q67_14_0.now_seq_branch, str q67_14_0.now_seq_head_branch, i64 q67_14_0.now_seq_head_commit, q67_14_0.now_seq_index.val, q67_14_0.now_seq_work.val, q67_14_0.now_stash.val, q67_14_0.commits.val, q67_14_0.log_back.val, q67_14_0.log_forth.val, i64 q67_14_0.time], .nilIface]) (.inr rfl) rfl (RVs.cell gagg41 rfl rfl Rd.blk (RVs.tmp rfl (RVs.nil))) (⟨q72_16_0, q67_14_0.now_index, q67_14_0.now_refs, q67_14_0.now_head_branch, q67_14_0.now_head_commit, q67_14_0.now_seq_kind, q67_14_0.now_seq_other, q67_14_0.now_seq_text, q67_14_0.now_seq_doing, q67_14_0.now_seq_todo, q67_14_0.now_seq_made, q67_14_0.now_seq_branch, q67_14_0.now_seq_head_branch, q67_14_0.now_seq_head_commit, q67_14_0.now_seq_index, q67_14_0.now_seq_work, q67_14_0.now_stash, q67_14_0.commits, q67_14_0.log_back, q67_14_0.log_forth, q67_14_0.time⟩, .nil) rfl rfl (by (try dsimp only); exact InM.out) (fun _ _ => trivial))
theorem rectotop_write_ct (s_0 : StateState) (p_1 : Str) (data_2 : Str) {r : StateStateP} (hS : Sh.rectotop_write s_0.pl p_1 data_2 = some r) :
 Ct Tryz.prog 13 [.agg (zStateState s_0).toArray, str p_1, str data_2] (s_0.now_work.ok.and (s_0.now_index.ok.and (s_0.now_refs.ok.and (s_0.now_seq_doing.ok.and (s_0.now_seq_todo.ok.and (s_0.now_seq_index.ok.and (s_0.now_seq_work.ok.and (s_0.now_stash.ok.and (s_0.commits.ok.and (s_0.log_back.ok.and s_0.log_forth.ok)))))))))) (Ow.emp) (X := StateState) (fun x => .agg (Dat.enc x).toArray) (fun x => r = x.pl) (fun x => x.m) (fun x => Ow.emp) := by
 refine Zo Tryz.func13 Tryz.ntmps13 fun c => ?_
 unfold Sh.rectotop_write at hS
 refine Zq (Zr ?_)
 refine VL.box (cs := (zStateState s_0)) rfl rfl (by decide) fun b3_1 => ?_
 refine VL.alloc (cs := [.slice none 0 0, .slice none 0 0, .slice none 0 0, str [], i64 0, str [], i64 0, str [], .slice none 0 0, .slice none 0 0, i64 0, str [], str [], i64 0, .slice none 0 0, .slice none 0 0, .slice none 0 0, .slice none 0 0, .slice none 0 0, .slice none 0 0, i64 0]) (by kernel_rfl) (by decide) fun b6_2 => ?_
 refine Zl ?_
 refine Zq (Zr ?_)
 refine Zu (q_fes gagg41 rfl rfl) ?_
 refine Zy ?_
 obtain ⟨y13_3, ey13_3, hS⟩ := bd_s hS
 refine VL.callF (repo_Write_ct s_0 p_1 1 data_2 ey13_3) rfl (by decide) ?_
 rintro ⟨q13_3_0, q13_3_1⟩ rfl
 try dsimp only
 refine Zm ?_
 refine Zu (q_extract rfl rfl) ?_
 refine Zu (q_extract rfl rfl) ?_
 refine VL.alloc (cs := [.slice none 0 0, .slice none 0 0, .slice none 0 0, str [], i64 0, str [], i64 0, str [], .slice none 0 0, .slice none 0 0, i64 0, str [], str [], i64 0, .slice none 0 0, .slice none 0 0, .slice none 0 0, .slice none 0 0, .slice none 0 0, .slice none 0 0, i64 0]) (by kernel_rfl) (by decide) fun b7_4 => ?_
 refine Zv (vc := (zStateState q13_3_0)) (cs' := (zStateState q13_3_0)) rfl gsz41 ?_
 refine Zy ?_
 refine VC.keep (ρ' := [(6, ptr b6_2 0), (7, ptr b7_4 0)]) [6, 7] rfl ?_
 refine Zq (Zr ?_)
 refine Zu (q_fes gagg41 rfl rfl) ?_
 refine Zv (vc := (zStateState q13_3_0)) (cs' := (zStateState q13_3_0)) rfl gsz41 ?_
 refine Zl ?_
 cases hS
 exact VC.ret (finG (vs := [.agg (zStateState q13_3_0).toArray]) (.inr rfl) rfl (RVs.cell gagg41 rfl rfl Rd.blk (RVs.nil)) q13_3_0 rfl rfl (by (try dsimp only); exact InM.out) (fun _ _ => trivial))
theorem internal_stringslite_Cut_ct (s_0 : Str) (sep_1 : Str) {r : Str × Str × Bool} (hS : Sh.internal_stringslite_Cut s_0 sep_1 = some r) :
 Ct Tryz.prog 49 [str s_0, str sep_1] Mo.tt (Ow.emp) (X := Unit) (fun _ => .tuple #[str r.1, str r.2.1, .bool r.2.2]) (fun _ => True) (fun _ => Mo.tt) (fun _ => Ow.emp) := by
 refine Zo Tryz.func49 Tryz.ntmps49 fun c => ?_
 unfold Sh.internal_stringslite_Cut at hS
 refine Zq (Zr ?_)
 refine Zy ?_
 refine Zq (Zq (Zr ?_))
 refine Zy ?_
 obtain ⟨y10_1, ey10_1, hS⟩ := bd_s hS
 refine Zu (q_call (internal_stringslite_Index_ct s_0 sep_1 ey10_1) rfl (fun _ _ => rfl)) ?_
 refine Zy ?_
 refine Zq (Zr ?_)
 refine Zm ?_
 refine Zu (q_geq rfl rfl) ?_
 refine Zl ?_
 refine VC.keep (ρ' := [(0, str s_0), (1, str sep_1), (7, i64 y10_1), (12, .bool (decide (0 ≤ y10_1)))]) [0, 1, 7, 12] rfl ?_
 refine Zc hS (fun h12 hS => ?_) (fun h12 hS => ?_)
 ·
  refine Zq ?_
  refine VC.draw ((List.range 12).map fun k => (k, true)) mixed (by kernel_rfl) (by kernel_rfl) (by kernel_rfl) ?_
  refine Zw rfl (q_move rfl) ?_
  refine Zw rfl (q_move rfl) ?_
  obtain ⟨b15, hS⟩ := gd_s hS
  obtain ⟨y15_2, ey15_2, hS⟩ := lt_s hS
  refine Zw rfl (q_stoE Tryz.underlying9 rfl rfl b15.1 b15.2 ey15_2) ?_
  refine Zw rfl (q_move rfl) ?_
  refine Zw rfl (q_move rfl) ?_
  refine Zw rfl (q_move rfl) ?_
  refine Zw rfl (q_slen Tryz.underlying9 rfl) ?_
  obtain ⟨b20, hS⟩ := gd_s hS
  refine Zw rfl (q_add rfl rfl b20) ?_
  obtain ⟨b21, hS⟩ := gd_s hS
  obtain ⟨y21_3, ey21_3, hS⟩ := lt_s hS
  refine Zw rfl (q_sfromE Tryz.underlying9 rfl rfl b21.1 b21.2 ey21_3) ?_
  refine Zw rfl (q_assign rfl) ?_
  refine Zw rfl (q_assign rfl) ?_
  refine Zw rfl (q_assign rfl) ?_
  refine VD.to (fun _ _ h => h) ?_
  refine VC.keep (ρ' := [(4, str y15_2), (5, str y21_3), (6, .bool true)]) [4, 5, 6] rfl ?_
  cases hS
  exact VC.ret (fin3 (.inr rfl) rfl rfl rfl rfl () rfl trivial (fun _ _ => trivial) (fun _ _ => trivial))
 refine Zk ?_
 refine Zq (Zr ?_)
 refine Zy ?_
 cases hS
 exact VC.ret (fin3 (.inr rfl) rfl rfl rfl rfl () rfl trivial (fun _ _ => trivial) (fun _ _ => trivial))
theorem strings_Cut_ct (s_0 : Str) (sep_1 : Str) {r : Str × Str × Bool} (hS : Sh.strings_Cut s_0 sep_1 = some r) :
 Ct Tryz.prog 25 [str s_0, str sep_1] Mo.tt (Ow.emp) (X := Unit) (fun _ => .tuple #[str r.1, str r.2.1, .bool r.2.2]) (fun _ => True) (fun _ => Mo.tt) (fun _ => Ow.emp) := by
 refine Zo Tryz.func25 Tryz.ntmps25 fun c => ?_
 unfold Sh.strings_Cut at hS
 refine Zq (Zr ?_)
 refine Zy ?_
 refine Zq (Zr ?_)
 refine Zy ?_
 obtain ⟨y9_1, ey9_1, hS⟩ := bd_s hS
 refine Zu (q_call (internal_stringslite_Cut_ct s_0 sep_1 ey9_1) rfl (fun _ _ => rfl)) ?_
 refine Zu (q_extract rfl rfl) ?_
 refine Zu (q_extract rfl rfl) ?_
 refine Zu (q_extract rfl rfl) ?_
 refine Zy ?_
 refine VC.keep (ρ' := [(4, str y9_1.1), (5, str y9_1.2.1), (6, .bool y9_1.2.2)]) [4, 5, 6] rfl ?_
 cases hS
 exact VC.ret (fin3 (.inr rfl) rfl rfl rfl rfl () rfl trivial (fun _ _ => trivial) (fun _ _ => trivial))
theorem cmd_first_ct (w_0 : Sv Str) {r : Str} (hS : Sh.cmd_first w_0.l = some r) :
 Ct Tryz.prog 94 [w_0.val] w_0.ok (Ow.emp) (X := Unit) (fun _ => str r) (fun _ => True) (fun _ => Mo.tt) (fun _ => Ow.emp) := by
 refine Zo Tryz.func94 Tryz.ntmps94 fun c => ?_
 unfold Sh.cmd_first at hS
 refine Zq (Zr ?_)
 refine Zy ?_
 refine Zq (Zq (Zr ?_))
 refine Zm ?_
 refine Zu (q_ln (s := w_0) Tryz.underlying37 rfl) ?_
 refine Zu (q_eql rfl rfl) ?_
 refine Zl ?_
 refine Zc hS (fun h5 hS => ?_) (fun h5 hS => ?_)
 ·
  refine Zq ?_
  cases hS
 refine Zk ?_
 refine Zq (Zr ?_)
 refine Zm ?_
 obtain ⟨z7_1, nz7_1, hz7_1, hS⟩ := at_s hS
 refine Zu (q_ixm (s := w_0) Tryz.underlying37 gsz9 rfl rfl nz7_1 (lt_of_get nz7_1 hz7_1)) ?_
 refine Zu (q_el (s := w_0) gone9 rfl hz7_1 rfl) ?_
 refine Zy ?_
 cases hS
 exact Ze
theorem cmd_digit_ct (s_0 : Str) {r : Bool} (hS : Sh.cmd_digit s_0 = some r) :
 Ct Tryz.prog 95 [str s_0] Mo.tt (Ow.emp) (X := Unit) (fun _ => .bool r) (fun _ => True) (fun _ => Mo.tt) (fun _ => Ow.emp) := by
 refine Zo Tryz.func95 Tryz.ntmps95 fun c => ?_
 unfold Sh.cmd_digit at hS
 refine Zq (Zr ?_)
 refine Zy ?_
 refine Zq (Zr ?_)
 refine Zm ?_
 refine Zu (q_sne rfl rfl) ?_
 refine Zm ?_
 refine Zspn 5 hS (fun h5 hS => ?_) (fun h5 hS => ?_)
 ·
  refine Zg ?_
  obtain ⟨z7_1, nz7_1, hz7_1, hS⟩ := at_s hS
  refine Zh (q_sidx Tryz.underlying9 rfl rfl nz7_1 hz7_1) ?_
  refine Zh (q_geq rfl rfl) ?_
  refine Zy ?_
  refine Zsp 10 hS (fun h10 hS => ?_) (fun h10 hS => ?_)
  ·
   refine Zg ?_
   obtain ⟨z12_2, nz12_2, hz12_2, hS⟩ := at_s hS
   refine Zh (q_sidx Tryz.underlying9 rfl rfl nz12_2 hz12_2) ?_
   refine Zh (q_leq rfl rfl) ?_
   refine Zy ?_
   refine VC.keep (ρ' := [(2, .bool (decide ((z12_2.toNat : Int) ≤ 57)))]) [2] rfl ?_
   cases hS
   exact Ze
  refine VL.skips 3 [13] (by kernel_rfl) ?_
  refine Zy ?_
  refine VC.keep (ρ' := [(2, .bool false)]) [2] rfl ?_
  cases hS
  exact Ze
 refine VL.skips 3 [8] (by kernel_rfl) ?_
 refine Zf ?_
 refine Zm ?_
 refine VL.skips 3 [13] (by kernel_rfl) ?_
 refine Zy ?_
 cases hS
 exact Ze
theorem cmd_words_ct (c_0_b : Nat) (c_0 : CmdCmd) (w_1 : Sv Str) {r : Bool × CmdCmdP} (hS : Sh.cmd_words c_0.pl w_1.l = some r) :
 Ct Tryz.prog 51 [ptr c_0_b 0, w_1.val] (c_0.todo.ok.and w_1.ok) (Blk c_0_b [str c_0.verb, str c_0.name, i64 c_0.n, str c_0.text, .bool c_0.force, c_0.todo.val] 60) (X := Bool × CmdCmd) (fun x => .bool x.1) (fun x => r = (x.1, x.2.pl)) (fun x => x.2.todo.ok) (fun x => Blk c_0_b [str x.2.verb, str x.2.name, i64 x.2.n, str x.2.text, .bool x.2.force, x.2.todo.val] 60) := by
 refine Zo Tryz.func51 Tryz.ntmps51 fun c => ?_
 unfold Sh.cmd_words at hS
 refine Zq (Zr ?_)
 refine Zy ?_
 refine Zq (Zr ?_)
 refine Zy ?_
 refine VC.cutJ (S := Sv Str × Bool) (fun sg => (sg.1.l, sg.2)) (fun sg => [(0, ptr c_0_b 0), (1, sg.1.val), (5, i64 0), (6, .bool true)]) (fun sg => sg.1.ok) (fun sg => Ow.star (Blk c_0_b [str c_0.verb, str c_0.name, i64 c_0.n, str c_0.text, .bool sg.2, c_0.todo.val] 60) (Ow.emp)) hS ?_ ?_
 ·
  clear hS
  intro k3 hS
  refine Zq (Zr ?_)
  refine Zm ?_
  refine Zu (q_nilCheck rfl) ?_
  refine Zu (q_field gfa60_0 rfl) ?_
  refine Zu (q_fe gone9 rfl rfl) ?_
  refine Zl ?_
  refine Zb ?_
  refine VC.cutJ (S := Bool) (fun (x11_4 : Bool) => x11_4) (fun (x11_4 : Bool) => [(0, ptr c_0_b 0), (1, w_1.val), (5, i64 0), (6, .bool true), (11, .bool x11_4)]) (fun (x11_4 : Bool) => Mo.tt) (fun (x11_4 : Bool) => Ow.star (Blk c_0_b [str c_0.verb, str c_0.name, i64 c_0.n, str c_0.text, .bool c_0.force, c_0.todo.val] 60) (Ow.emp)) hS ?_ ?_
  ·
   clear hS
   intro k5 hS
   refine Zq (Zr ?_)
   refine Zy ?_
   refine Zc hS (fun h11 hS => ?_) (fun h11 hS => ?_)
   ·
    refine VC.skip_mt (decide (c_0.verb = [114, 109])) [0, 1, 5, 6, 11] (fun _ _ h => h) hS rfl
   refine Zr ?_
   refine Zy ?_
   refine VL.mt (decide (c_0.verb = [115, 119, 105, 116, 99, 104])) [0, 1, 5, 6, 11] (fun _ _ h => h) hS rfl
  clear hS
  rintro x11_4 hS
  refine Zcb hS (fun h11 hS => ?_) (fun h11 hS => ?_)
  ·
   refine VC.cutJ (S := Bool) (fun (x25_6 : Bool) => x25_6) (fun (x25_6 : Bool) => [(0, ptr c_0_b 0), (1, w_1.val), (5, i64 0), (6, .bool true), (25, .bool x25_6)]) (fun (x25_6 : Bool) => Mo.tt) (fun (x25_6 : Bool) => Ow.star (Blk c_0_b [str c_0.verb, str c_0.name, i64 c_0.n, str c_0.text, .bool c_0.force, c_0.todo.val] 60) (Ow.emp)) hS ?_ ?_
   ·
    clear hS
    intro k7 hS
    refine Zr ?_
    refine Zm ?_
    refine Zu (q_ln (s := w_1) Tryz.underlying37 rfl) ?_
    refine Zu (q_gtr rfl rfl) ?_
    refine Zm ?_
    refine Zsp 17 hS (fun h17 hS => ?_) (fun h17 hS => ?_)
    ·
     refine Zy ?_
     refine Zh (q_ln (s := w_1) Tryz.underlying37 rfl) ?_
     obtain ⟨b21, hS⟩ := gd_s hS
     refine Zh (q_sub rfl rfl b21) ?_
     obtain ⟨z22_8, nz22_8, hz22_8, hS⟩ := at_s hS
     refine Zh (q_ixm (s := w_1) Tryz.underlying37 gsz9 rfl rfl nz22_8 (lt_of_get nz22_8 hz22_8)) ?_
     refine Zh (q_el (s := w_1) gone9 rfl hz22_8 rfl) ?_
     refine Zh (q_seq rfl rfl) ?_
     refine Zt ?_
     refine VL.mt (decide (z22_8 = [45, 102])) [0, 1, 5, 6, 25] (fun _ _ h => h) hS rfl
    refine VL.skips 7 [24] (by kernel_rfl) ?_
    refine Zf ?_
    refine VL.mt false [0, 1, 5, 6, 25] (fun _ _ h => h) hS rfl
   clear hS
   rintro x25_6 hS
   refine Zcb hS (fun h25 hS => ?_) (fun h25 hS => ?_)
   ·
    refine VC.draw [(0, true), (1, true), (2, true), (3, true), (4, true), (5, true), (6, true), (7, true), (8, false), (9, true)] mixed (by kernel_rfl) (by kernel_rfl) (by kernel_rfl) ?_
    refine Zw rfl (q_move rfl) ?_
    refine Zw rfl (q_move rfl) ?_
    refine Zw rfl (q_move rfl) ?_
    refine Zw rfl (q_ln (s := w_1) Tryz.underlying37 rfl) ?_
    obtain ⟨b30, hS⟩ := gd_s hS
    refine Zw rfl (q_sub rfl rfl b30) ?_
    obtain ⟨b31, hS⟩ := gd_s hS
    refine VD.stoK rfl Tryz.underlying37 gsz9 rfl rfl b31.1 (b31.2) (by decide) fun s31_9 hs31_9 Qs31_9 => ?_
    replace hS := lt_to hs31_9 hS
    refine Zw rfl (q_nilCheck rfl) ?_
    refine Zw rfl (q_field gfa60_4 rfl) ?_
    refine VD.one rfl ?_
    refine Zv (vc := [.bool true]) (cs' := [str c_0.verb, str c_0.name, i64 c_0.n, str c_0.text, .bool true, c_0.todo.val]) rfl gsz4 ?_
    refine VL.back (D' := [(5, s31_9.val), (4, i64 ((w_1.l.length : Int) - 1)), (3, i64 (w_1.l.length : Int))]) (by kernel_rfl) (Pend.cons rfl ((Qs31_9 rfl rfl)) (Pend.cons rfl (q_sub rfl rfl b30) (Pend.cons rfl (q_ln (s := w_1) Tryz.underlying37 rfl) (Pend.nil)))) ?_
    refine Zw rfl (q_assign rfl) ?_
    refine VD.mt (s31_9, true) [0, 1, 5, 6] (fun _ _ h => h) hS rfl
   refine VC.skip_mt (w_1, c_0.force) [0, 1, 5, 6] (fun _ _ h => h) hS rfl
  refine VC.skip_mt (w_1, c_0.force) [0, 1, 5, 6] (fun _ _ h => h) hS rfl
 clear hS
 rintro ⟨w1_1, c4_2⟩ hS
 refine VC.cutJ (S := Int × Bool × Str) (fun sg => (sg.1, sg.2.1, sg.2.2)) (fun sg => [(1, w1_1.val), (5, i64 sg.1), (6, .bool sg.2.1)]) (fun sg => Mo.tt) (fun sg => Ow.star (Blk c_0_b [str c_0.verb, str sg.2.2, i64 c_0.n, str c_0.text, .bool c4_2, c_0.todo.val] 60) (Ow.emp)) hS ?_ ?_
 ·
  clear hS
  intro k14 hS
  refine Zq (Zr ?_)
  refine Zm ?_
  refine Zu (q_nilCheck rfl) ?_
  refine Zu (q_field gfa60_0 rfl) ?_
  refine Zu (q_fe gone9 rfl rfl) ?_
  refine Zl ?_
  refine Zb ?_
  refine VC.cutJ (S := Unit) (fun (_ : Unit) => ()) (fun (_ : Unit) => [(0, ptr c_0_b 0), (1, w1_1.val)]) (fun (_ : Unit) => Mo.tt) (fun (_ : Unit) => Ow.star (Blk c_0_b [str c_0.verb, str c_0.name, i64 c_0.n, str c_0.text, .bool c4_2, c_0.todo.val] 60) (Ow.emp)) hS ?_ ?_
  ·
   clear hS
   intro k15 hS
   refine Zb ?_
   refine VC.cutJ (S := Unit) (fun (_ : Unit) => ()) (fun (_ : Unit) => [(0, ptr c_0_b 0), (1, w1_1.val)]) (fun (_ : Unit) => Mo.tt) (fun (_ : Unit) => Ow.star (Blk c_0_b [str c_0.verb, str c_0.name, i64 c_0.n, str c_0.text, .bool c4_2, c_0.todo.val] 60) (Ow.emp)) hS ?_ ?_
   ·
    clear hS
    intro k16 hS
    refine Zb ?_
    refine VC.cutJ (S := Unit) (fun (_ : Unit) => ()) (fun (_ : Unit) => [(0, ptr c_0_b 0), (1, w1_1.val)]) (fun (_ : Unit) => Mo.tt) (fun (_ : Unit) => Ow.star (Blk c_0_b [str c_0.verb, str c_0.name, i64 c_0.n, str c_0.text, .bool c4_2, c_0.todo.val] 60) (Ow.emp)) hS ?_ ?_
    ·
     clear hS
     intro k17 hS
     refine Zb ?_
     refine VC.cutJ (S := Unit) (fun (_ : Unit) => ()) (fun (_ : Unit) => [(0, ptr c_0_b 0), (1, w1_1.val)]) (fun (_ : Unit) => Mo.tt) (fun (_ : Unit) => Ow.star (Blk c_0_b [str c_0.verb, str c_0.name, i64 c_0.n, str c_0.text, .bool c4_2, c_0.todo.val] 60) (Ow.emp)) hS ?_ ?_
     ·
      clear hS
      intro k18 hS
      refine Zb (Zq (Zb (Zq (Zq (Zq (Zr ?_))))))
      refine Zy ?_
      refine Zc hS (fun h38 hS => ?_) (fun h38 hS => ?_)
      ·
       refine Zx ?_
       refine Zq (Zr ?_)
       refine Zm ?_
       refine Zu (q_ln (s := w1_1) Tryz.underlying37 rfl) ?_
       refine Zu (q_eql rfl rfl) ?_
       refine Zl ?_
       refine VC.keep (ρ' := [(0, ptr c_0_b 0), (1, w1_1.val), (5, i64 0), (6, .bool true), (58, .bool (decide ((w1_1.l.length : Int) = 0)))]) [0, 1, 5, 6, 58] rfl ?_
       refine Zc hS (fun h58 hS => ?_) (fun h58 hS => ?_)
       ·
        refine VC.exit_mt (0, true, c_0.name) [1, 5, 6] (fun _ _ h => h) hS rfl
       refine VC.skip_mt () [0, 1] (fun _ _ h => h) hS rfl
      refine Zk ?_
      refine VC.cutJ (S := Unit) (fun (_ : Unit) => ()) (fun (_ : Unit) => [(0, ptr c_0_b 0), (1, w1_1.val), (5, i64 0), (6, .bool true), (37, str c_0.verb)]) (fun (_ : Unit) => Mo.tt) (fun (_ : Unit) => Ow.star (Blk c_0_b [str c_0.verb, str c_0.name, i64 c_0.n, str c_0.text, .bool c4_2, c_0.todo.val] 60) (Ow.emp)) hS ?_ ?_
      ·
       clear hS
       intro k19 hS
       refine Zq (Zq (Zr ?_))
       refine Zy ?_
       refine Zc hS (fun h40 hS => ?_) (fun h40 hS => ?_)
       ·
        refine Zk ?_
        refine Zc hS (fun h40 hS => ?_) (fun h40 hS => ?_)
        ·
         refine VC.exit_mt () [0, 1] (fun _ _ h => h) hS rfl
        refine VC.skip_mt () [0, 1, 5, 6, 37] (fun _ _ h => h) hS rfl
       refine Zq (Zr ?_)
       refine Zy ?_
       refine VC.keep (ρ' := [(0, ptr c_0_b 0), (1, w1_1.val), (5, i64 0), (6, .bool true), (37, str c_0.verb), (40, .bool (decide (c_0.verb = [98, 114, 97, 110, 99, 104])))]) [0, 1, 5, 6, 37, 40] rfl ?_
       refine Zc hS (fun h40 hS => ?_) (fun h40 hS => ?_)
       ·
        refine Zk ?_
        refine Zc hS (fun h40 hS => ?_) (fun h40 hS => ?_)
        ·
         refine VC.exit_mt () [0, 1] (fun _ _ h => h) hS rfl
        refine VC.skip_mt () [0, 1, 5, 6, 37] (fun _ _ h => h) hS rfl
       refine Zq (Zr ?_)
       refine Zy ?_
       refine Zc hS (fun h40 hS => ?_) (fun h40 hS => ?_)
       ·
        refine Zk ?_
        refine Zc hS (fun h40 hS => ?_) (fun h40 hS => ?_)
        ·
         refine VC.exit_mt () [0, 1] (fun _ _ h => h) hS rfl
        refine VC.skip_mt () [0, 1, 5, 6, 37] (fun _ _ h => h) hS rfl
       refine Zr ?_
       refine Zy ?_
       refine Zc hS (fun h40 hS => ?_) (fun h40 hS => ?_)
       ·
        refine VC.exit_mt () [0, 1] (fun _ _ h => h) hS rfl
       refine VC.skip_mt () [0, 1, 5, 6, 37] (fun _ _ h => h) hS rfl
      clear hS
      rintro _ hS
      refine Zq (Zq (Zr ?_))
      refine Zy ?_
      refine Zc hS (fun h45 hS => ?_) (fun h45 hS => ?_)
      ·
       refine VC.exit_mt () [0, 1] (fun _ _ h => h) hS rfl
      refine Zk ?_
      refine Zq (Zq (Zr ?_))
      refine Zy ?_
      refine Zc hS (fun h47 hS => ?_) (fun h47 hS => ?_)
      ·
       refine VC.exit_mt () [0, 1] (fun _ _ h => h) hS rfl
      refine Zk ?_
      refine Zq (Zq (Zr ?_))
      refine Zy ?_
      refine Zc hS (fun h49 hS => ?_) (fun h49 hS => ?_)
      ·
       refine Zk ?_
       refine Zc hS (fun h49 hS => ?_) (fun h49 hS => ?_)
       ·
        refine VC.exit_mt () [0, 1] (fun _ _ h => h) hS rfl
       refine Zk ?_
       refine VC.keep (ρ' := [(1, w1_1.val), (5, i64 0), (6, .bool true)]) [1, 5, 6] rfl ?_
       refine VC.exit_mt (0, true, c_0.name) [1, 5, 6] (fun _ _ h => h) hS rfl
      refine Zq (Zr ?_)
      refine Zy ?_
      refine Zc hS (fun h49 hS => ?_) (fun h49 hS => ?_)
      ·
       refine Zk ?_
       refine VC.keep (ρ' := [(0, ptr c_0_b 0), (1, w1_1.val), (5, i64 0), (6, .bool true), (49, .bool (decide (c_0.verb = [114, 101, 118, 101, 114, 116])))]) [0, 1, 5, 6, 49] rfl ?_
       refine Zc hS (fun h49 hS => ?_) (fun h49 hS => ?_)
       ·
        refine VC.exit_mt () [0, 1] (fun _ _ h => h) hS rfl
       refine Zk ?_
       refine VC.exit_mt (0, true, c_0.name) [1, 5, 6] (fun _ _ h => h) hS rfl
      refine Zq (Zr ?_)
      refine Zy ?_
      refine VC.keep (ρ' := [(0, ptr c_0_b 0), (1, w1_1.val), (5, i64 0), (6, .bool true), (37, str c_0.verb), (49, .bool (decide (c_0.verb = [112, 111, 112])))]) [0, 1, 5, 6, 37, 49] rfl ?_
      refine Zc hS (fun h49 hS => ?_) (fun h49 hS => ?_)
      ·
       refine Zk ?_
       refine Zc hS (fun h49 hS => ?_) (fun h49 hS => ?_)
       ·
        refine VC.exit_mt () [0, 1] (fun _ _ h => h) hS rfl
       refine Zk ?_
       refine VC.exit_mt (0, true, c_0.name) [1, 5, 6] (fun _ _ h => h) hS rfl
      refine Zq (Zr ?_)
      refine Zy ?_
      refine Zc hS (fun h49 hS => ?_) (fun h49 hS => ?_)
      ·
       refine Zk ?_
       refine Zc hS (fun h49 hS => ?_) (fun h49 hS => ?_)
       ·
        refine VC.exit_mt () [0, 1] (fun _ _ h => h) hS rfl
       refine Zk ?_
       refine VC.exit_mt (0, true, c_0.name) [1, 5, 6] (fun _ _ h => h) hS rfl
      refine Zq (Zr ?_)
      refine Zy ?_
      refine Zc hS (fun h49 hS => ?_) (fun h49 hS => ?_)
      ·
       refine Zk ?_
       refine Zc hS (fun h49 hS => ?_) (fun h49 hS => ?_)
       ·
        refine VC.exit_mt () [0, 1] (fun _ _ h => h) hS rfl
       refine Zk ?_
       refine VC.exit_mt (0, true, c_0.name) [1, 5, 6] (fun _ _ h => h) hS rfl
      refine Zr ?_
      refine Zy ?_
      refine Zc hS (fun h49 hS => ?_) (fun h49 hS => ?_)
      ·
       refine VC.exit_mt () [0, 1] (fun _ _ h => h) hS rfl
      refine Zk ?_
      refine VC.exit_mt (0, true, c_0.name) [1, 5, 6] (fun _ _ h => h) hS rfl
     clear hS
     rintro _ hS
     refine Zq (Zq (Zr ?_))
     refine Zy ?_
     refine Zq (Zr ?_)
     refine Zy ?_
     obtain ⟨y61_20, ey61_20, hS⟩ := bd_s hS
     refine Zu (q_call (cmd_first_ct w1_1 ey61_20) rfl (fun _ _ => rfl)) ?_
     refine Zu (q_nilCheck rfl) ?_
     refine Zu (q_field gfa60_1 rfl) ?_
     refine Zv (vc := [str y61_20]) (cs' := [str c_0.verb, str y61_20, i64 c_0.n, str c_0.text, .bool c4_2, c_0.todo.val]) rfl gsz9 ?_
     refine Zl ?_
     refine Zr ?_
     refine Zm ?_
     refine Zu (q_nilCheck rfl) ?_
     refine Zu (q_field gfa60_1 rfl) ?_
     refine Zu (q_fe gone9 rfl rfl) ?_
     refine Zu (q_sne rfl rfl) ?_
     refine Zy ?_
     refine VC.keep (ρ' := [(1, w1_1.val), (5, i64 1), (6, .bool (!decide (y61_20 = [])))]) [1, 5, 6] rfl ?_
     refine VC.exit_mt (1, (!decide (y61_20 = [])), y61_20) [1, 5, 6] (fun _ _ h => h) hS rfl
    clear hS
    rintro _ hS
    refine Zq (Zq (Zr ?_))
    refine Zy ?_
    refine Zq (Zr ?_)
    refine Zm ?_
    obtain ⟨y70_21, ey70_21, hS⟩ := bd_s hS
    refine Zu (q_call (cmd_first_ct w1_1 ey70_21) rfl (fun _ _ => rfl)) ?_
    obtain ⟨y71_22, ey71_22, hS⟩ := bd_s hS
    refine Zu (q_call (cmd_digit_ct y70_21 ey71_22) rfl (fun _ _ => rfl)) ?_
    refine Zl ?_
    refine Zcb hS (fun h71 hS => ?_) (fun h71 hS => ?_)
    ·
     cases hS
    refine Zq (Zr ?_)
    refine Zy ?_
    obtain ⟨y83_23, ey83_23, hS⟩ := bd_s hS
    refine Zu (q_call (cmd_first_ct w1_1 ey83_23) rfl (fun _ _ => rfl)) ?_
    refine Zu (q_nilCheck rfl) ?_
    refine Zu (q_field gfa60_1 rfl) ?_
    refine Zv (vc := [str y83_23]) (cs' := [str c_0.verb, str y83_23, i64 c_0.n, str c_0.text, .bool c4_2, c_0.todo.val]) rfl gsz9 ?_
    refine Zl ?_
    refine VC.keep (ρ' := [(0, ptr c_0_b 0), (1, w1_1.val), (5, i64 1)]) [0, 1, 5] rfl ?_
    refine Zr ?_
    refine Zm ?_
    refine Zu (q_nilCheck rfl) ?_
    refine Zu (q_field gfa60_1 rfl) ?_
    refine Zu (q_fe gone9 rfl rfl) ?_
    refine Zu (q_sne rfl rfl) ?_
    refine Zy ?_
    refine VC.exit_mt (1, (!decide (y83_23 = [])), y83_23) [1, 5, 6] (fun _ _ h => h) hS rfl
   clear hS
   rintro _ hS
   refine Zq (Zq ?_)
   cases hS
  clear hS
  rintro _ hS
  refine Zq (Zq ?_)
  cases hS
 clear hS
 rintro ⟨want5_11, ok6_12, c1_13⟩ hS
 refine Zq (Zr ?_)
 refine Zy ?_
 refine Zspb 127 hS (fun h127 hS => ?_) (fun h127 hS => ?_)
 ·
  refine Zg ?_
  refine Zh (q_ln (s := w1_1) Tryz.underlying37 rfl) ?_
  refine Zg ?_
  refine Zh (q_eql rfl rfl) ?_
  refine Zy ?_
  refine VC.keep (ρ' := [(4, .bool (decide ((w1_1.l.length : Int) = want5_11)))]) [4] rfl ?_
  cases hS
  exact VC.ret (fin1 (.inr rfl) rfl rfl ((decide ((w1_1.l.length : Int) = want5_11)), ⟨c_0.verb, c1_13, c_0.n, c_0.text, c4_2, c_0.todo⟩) rfl rfl (by (try dsimp only); exact InM.out) (by (try dsimp only); exact EntO.out))
 refine VL.skips 4 [131] (by kernel_rfl) ?_
 refine Zy ?_
 cases hS
 exact VC.ret (fin1 (.inr rfl) rfl rfl (false, ⟨c_0.verb, c1_13, c_0.n, c_0.text, c4_2, c_0.todo⟩) rfl rfl (by (try dsimp only); exact InM.out) (by (try dsimp only); exact EntO.out))
theorem cmd_read_ct (line_0 : Str) {r : CmdCmdP × Bool} (hS : Sh.cmd_read line_0 = some r) :
 Ct Tryz.prog 26 [str line_0] Mo.tt (Ow.emp) (X := CmdCmd × Bool) (fun x => .tuple #[.agg (Dat.enc x.1).toArray, .bool x.2]) (fun x => r = (x.1.pl, x.2)) (fun x => x.1.m) (fun x => Ow.emp) := by
 refine Zo Tryz.func26 Tryz.ntmps26 fun c => ?_
 unfold Sh.cmd_read at hS
 refine Zq (Zr ?_)
 refine VL.alloc (cs := [str [], str [], i64 0, str [], .bool false, .slice none 0 0]) (by kernel_rfl) (by decide) fun b2_1 => ?_
 refine Zy ?_
 refine Zq (Zr ?_)
 refine Zm ?_
 obtain ⟨y12_2, ey12_2, hS⟩ := bd_s hS
 refine Zu (q_call (strings_Cut_ct line_0 [32] ey12_2) rfl (fun _ _ => rfl)) ?_
 refine Zm ?_
 refine Zu (q_extract rfl rfl) ?_
 refine Zu (q_extract rfl rfl) ?_
 refine Zu (q_extract rfl rfl) ?_
 refine Zy ?_
 refine VC.keep (ρ' := [(2, ptr b2_1 0), (4, str y12_2.1), (5, str y12_2.2.1), (6, .bool y12_2.2.2)]) [2, 4, 5, 6] rfl ?_
 refine Zq (Zr ?_)
 refine Zm ?_
 refine Zu (q_build (vs := [(0, str y12_2.1)]) (cs := #[str y12_2.1, str [], i64 0, str [], .bool false, .slice none 0 0]) rfl (by kernel_rfl)) ?_
 refine VL.alloc (cs := [str [], str [], i64 0, str [], .bool false, .slice none 0 0]) (by kernel_rfl) (by decide) fun b7_3 => ?_
 refine Zv (vc := [str y12_2.1, str [], i64 0, str [], .bool false, .slice none 0 0]) (cs' := [str y12_2.1, str [], i64 0, str [], .bool false, .slice none 0 0]) rfl gsz60 ?_
 refine Zl ?_
 refine Zq ?_
 refine VC.cutJ (S := Bool) (fun (x23_4 : Bool) => x23_4) (fun (x23_4 : Bool) => [(2, ptr b2_1 0), (5, str y12_2.2.1), (6, .bool y12_2.2.2), (7, ptr b7_3 0), (23, .bool x23_4)]) (fun (x23_4 : Bool) => Mo.tt) (fun (x23_4 : Bool) => Ow.star (Blk b7_3 [str y12_2.1, str [], i64 0, str [], .bool false, .slice none 0 0] 60) (Ow.star (Blk b2_1 [str [], str [], i64 0, str [], .bool false, .slice none 0 0] 60) (Ow.emp))) hS ?_ ?_
 ·
  clear hS
  intro k5 hS
  refine Zr ?_
  refine Zy ?_
  refine Zsp 20 hS (fun h20 hS => ?_) (fun h20 hS => ?_)
  ·
   refine Zy ?_
   refine VL.mt true [2, 5, 6, 7, 23] (fun _ _ h => h) hS rfl
  refine Zg ?_
  refine Zh (q_seq rfl rfl) ?_
  refine Zf ?_
  refine VL.mt (decide (y12_2.1 = [115, 116, 97, 115, 104])) [2, 5, 6, 7, 23] (fun _ _ h => h) hS rfl
 clear hS
 rintro x23_4 hS
 refine Zcb hS (fun h23 hS => ?_) (fun h23 hS => ?_)
 ·
  refine Zq (Zr ?_)
  refine Zm ?_
  refine Zu (q_field gfa60_3 rfl) ?_
  refine Zv (vc := [str y12_2.2.1]) (cs' := [str y12_2.1, str [], i64 0, str y12_2.2.1, .bool false, .slice none 0 0]) rfl gsz9 ?_
  refine Zl ?_
  refine Zq (Zr ?_)
  refine Zu (q_fes gagg60 rfl rfl) ?_
  refine Zm ?_
  refine Zu (q_not rfl) ?_
  refine Zm ?_
  refine Zspb 29 hS (fun h29 hS => ?_) (fun h29 hS => ?_)
  ·
   refine Zy ?_
   refine Zv (vc := [str y12_2.1, str [], i64 0, str y12_2.2.1, .bool false, .slice none 0 0]) (cs' := [str y12_2.1, str [], i64 0, str y12_2.2.1, .bool false, .slice none 0 0]) rfl gsz60 ?_
   refine Zy ?_
   refine VC.keep (ρ' := [(2, ptr b2_1 0), (3, .bool true)]) [2, 3] rfl ?_
   cases hS
   exact VC.ret (finG (vs := [.agg #[str y12_2.1, str [], i64 0, str y12_2.2.1, .bool false, .slice none 0 0], .bool true]) (.inr rfl) rfl (RVs.cell gagg60 rfl rfl Rd.blk (RVs.tmp rfl (RVs.nil))) (⟨y12_2.1, [], 0, y12_2.2.1, false, ⟨none, 0, []⟩⟩, true) rfl rfl (by (try dsimp only); exact InM.out) (fun _ _ => trivial))
  refine Zg ?_
  refine Zh (q_sne rfl rfl) ?_
  refine Zf ?_
  refine Zv (vc := [str y12_2.1, str [], i64 0, str y12_2.2.1, .bool false, .slice none 0 0]) (cs' := [str y12_2.1, str [], i64 0, str y12_2.2.1, .bool false, .slice none 0 0]) rfl gsz60 ?_
  refine Zy ?_
  refine VC.keep (ρ' := [(2, ptr b2_1 0), (3, .bool (!decide (y12_2.2.1 = [])))]) [2, 3] rfl ?_
  cases hS
  exact VC.ret (finG (vs := [.agg #[str y12_2.1, str [], i64 0, str y12_2.2.1, .bool false, .slice none 0 0], .bool (!decide (y12_2.2.1 = []))]) (.inr rfl) rfl (RVs.cell gagg60 rfl rfl Rd.blk (RVs.tmp rfl (RVs.nil))) (⟨y12_2.1, [], 0, y12_2.2.1, false, ⟨none, 0, []⟩⟩, (!decide (y12_2.2.1 = []))) rfl rfl (by (try dsimp only); exact InM.out) (fun _ _ => trivial))
 refine Zk ?_
 refine Zq (Zr ?_)
 refine Zy ?_
 refine VC.cutJ (S := Sv Str) (fun (w8_6 : Sv Str) => w8_6.l) (fun (w8_6 : Sv Str) => [(2, ptr b2_1 0), (7, ptr b7_3 0), (8, w8_6.val)]) (fun (w8_6 : Sv Str) => w8_6.ok) (fun (w8_6 : Sv Str) => Ow.star (Blk b7_3 [str y12_2.1, str [], i64 0, str [], .bool false, .slice none 0 0] 60) (Ow.star (Blk b2_1 [str [], str [], i64 0, str [], .bool false, .slice none 0 0] 60) (Ow.emp))) hS ?_ ?_
 ·
  clear hS
  intro k7 hS
  refine Zq (Zr ?_)
  refine Zy ?_
  refine Zcb hS (fun h33 hS => ?_) (fun h33 hS => ?_)
  ·
   refine Zr ?_
   refine Zm ?_
   obtain ⟨y35_8, ey35_8, hS⟩ := bd_s hS
   refine VL.callF (strings_Split_ct y12_2.2.1 [32] ey35_8) rfl (by decide) ?_
   rintro q35_8_0 rfl
   try dsimp only
   refine Za ?_
   refine VL.mt q35_8_0 [2, 7, 8] (fun _ _ h => h) hS rfl
  refine VC.skip_mt ⟨none, 0, []⟩ [2, 7, 8] (fun _ _ h => h) hS rfl
 clear hS
 rintro w8_6 hS
 refine Zq (Zr ?_)
 refine Zm ?_
 refine VL.reB b7_3 (cs' := [str y12_2.1, str [], i64 0, str [], .bool false, (⟨none, 0, []⟩ : Sv TodoStep).val]) rfl ?_
 obtain ⟨y37_9, ey37_9, hS⟩ := bd_s hS
 refine VL.callO (cmd_words_ct b7_3 (⟨y12_2.1, [], 0, [], false, (⟨none, 0, []⟩ : Sv TodoStep)⟩ : CmdCmd) w8_6 ey37_9) rfl (by decide) ?_
 rintro ⟨q37_9_0, q37_9_1⟩ rfl
 try dsimp only
 refine Zy ?_
 refine Zq (Zr ?_)
 refine Zu (q_fes gagg60 rfl rfl) ?_
 refine Zm ?_
 refine Zv (vc := [str q37_9_1.verb, str q37_9_1.name, i64 q37_9_1.n, str q37_9_1.text, .bool q37_9_1.force, q37_9_1.todo.val]) (cs' := [str q37_9_1.verb, str q37_9_1.name, i64 q37_9_1.n, str q37_9_1.text, .bool q37_9_1.force, q37_9_1.todo.val]) rfl gsz60 ?_
 refine Zy ?_
 cases hS
 exact VC.ret (finG (vs := [.agg #[str q37_9_1.verb, str q37_9_1.name, i64 q37_9_1.n, str q37_9_1.text, .bool q37_9_1.force, q37_9_1.todo.val], .bool q37_9_0]) (.inr rfl) rfl (RVs.cell gagg60 rfl rfl Rd.blk (RVs.tmp rfl (RVs.nil))) (⟨q37_9_1.verb, q37_9_1.name, q37_9_1.n, q37_9_1.text, q37_9_1.force, q37_9_1.todo⟩, q37_9_0) rfl rfl (by (try dsimp only); exact InM.out) (fun _ _ => trivial))
theorem cmd_Verbs_ct  {r : List Str} (hS : Sh.cmd_Verbs = some r) :
 Ct Tryz.prog 34 [] Mo.tt (Ow.emp) (X := Sv Str) (fun x => x.val) (fun x => r = x.l) (fun x => x.ok) (fun x => Ow.emp) := by
 refine Zo Tryz.func34 Tryz.ntmps34 fun c => ?_
 unfold Sh.cmd_Verbs at hS
 refine Zq (Zr ?_)
 refine Zy ?_
 refine Zq (Zr ?_)
 refine VL.lit (α := Str) (xs := [.const (str [97, 100, 100]), .const (str [114, 109]), .const (str [99, 111, 109, 109, 105, 116]), .const (str [98, 114, 97, 110, 99, 104]), .const (str [100, 101, 108, 101, 116, 101]), .const (str [115, 119, 105, 116, 99, 104]), .const (str [114, 101, 115, 101, 116]), .const (str [109, 101, 114, 103, 101]), .const (str [112, 105, 99, 107]), .const (str [114, 101, 118, 101, 114, 116]), .const (str [115, 116, 97, 115, 104]), .const (str [112, 111, 112]), .const (str [97, 112, 112, 108, 121]), .const (str [115, 104, 101, 108, 118, 101]), .const (str [114, 101, 98, 97, 115, 101]), .const (str [99, 111, 110, 116, 105, 110, 117, 101]), .const (str [115, 107, 105, 112]), .const (str [97, 98, 111, 114, 116]), .const (str [117, 110, 100, 111]), .const (str [114, 101, 100, 111])]) (vs := [str [97, 100, 100], str [114, 109], str [99, 111, 109, 109, 105, 116], str [98, 114, 97, 110, 99, 104], str [100, 101, 108, 101, 116, 101], str [115, 119, 105, 116, 99, 104], str [114, 101, 115, 101, 116], str [109, 101, 114, 103, 101], str [112, 105, 99, 107], str [114, 101, 118, 101, 114, 116], str [115, 116, 97, 115, 104], str [112, 111, 112], str [97, 112, 112, 108, 121], str [115, 104, 101, 108, 118, 101], str [114, 101, 98, 97, 115, 101], str [99, 111, 110, 116, 105, 110, 117, 101], str [115, 107, 105, 112], str [97, 98, 111, 114, 116], str [117, 110, 100, 111], str [114, 101, 100, 111]]) [[97, 100, 100], [114, 109], [99, 111, 109, 109, 105, 116], [98, 114, 97, 110, 99, 104], [100, 101, 108, 101, 116, 101], [115, 119, 105, 116, 99, 104], [114, 101, 115, 101, 116], [109, 101, 114, 103, 101], [112, 105, 99, 107], [114, 101, 118, 101, 114, 116], [115, 116, 97, 115, 104], [112, 111, 112], [97, 112, 112, 108, 121], [115, 104, 101, 108, 118, 101], [114, 101, 98, 97, 115, 101], [99, 111, 110, 116, 105, 110, 117, 101], [115, 107, 105, 112], [97, 98, 111, 114, 116], [117, 110, 100, 111], [114, 101, 100, 111]] Tryz.underlying37 glit9 (by decide) rfl rfl rfl rfl (by decide) (fun _ _ _ _ => trivial) (by decide) (fun s1_1 hs1_1 => ?_) (by decide)
 replace hS := lt_to hs1_1 hS
 refine Zy ?_
 cases hS
 exact VC.ret (fin1 (.inr rfl) rfl rfl s1_1 rfl rfl (by (try dsimp only); exact InM.out) (fun _ _ => trivial))
theorem slices_Index_string_string_ct (s_0 : Sv Str) (v_1 : Str) {r : Int} (hS : Sh.slices_Index_string_string s_0.l v_1 = some r) :
 Ct Tryz.prog 33 [s_0.val, str v_1] s_0.ok (Ow.emp) (X := Unit) (fun _ => i64 r) (fun _ => True) (fun _ => Mo.tt) (fun _ => Ow.emp) := by
 refine Zo Tryz.func33 Tryz.ntmps33 fun c => ?_
 unfold Sh.slices_Index_string_string at hS
 refine Zq (Zr ?_)
 refine Zy ?_
 refine Zq (Zq (Zr ?_))
 refine Zm ?_
 refine Zu (q_ln (s := s_0) Tryz.underlying37 rfl) ?_
 refine Zy ?_
 refine Zb ?_
 refine VC.iter (S := Int) (fun (x8_1 : Int) => x8_1) (fun (x8_1 : Int) => [(0, s_0.val), (1, str v_1), (7, i64 (s_0.l.length : Int)), (8, i64 x8_1)]) (fun (x8_1 : Int) => Mo.tt) (fun (x8_1 : Int) => Ow.emp) 0 [0, 1, 7, 8] hS rfl ?_
 clear hS
 rintro x8_1 m1 y1 hS hK1
 refine Zq (Zr ?_)
 refine Zu (q_lss rfl rfl) ?_
 refine Zl ?_
 refine Zq ?_
 refine Zc hS (fun h9 hS => ?_) (fun h9 hS => ?_)
 ·
  refine Zk ?_
  refine Zq (Zb (Zq (Zr ?_)))
  refine Zy ?_
  refine Zq (Zr ?_)
  refine Zy ?_
  obtain ⟨z14_2, nz14_2, hz14_2, hS⟩ := at_s hS
  refine Zu (q_ixm (s := s_0) Tryz.underlying37 gsz9 rfl rfl nz14_2 (lt_of_get nz14_2 hz14_2)) ?_
  refine Zu (q_el (s := s_0) gone9 rfl hz14_2 rfl) ?_
  refine Zy ?_
  refine VC.keep (ρ' := [(0, s_0.val), (1, str v_1), (7, i64 (s_0.l.length : Int)), (8, i64 x8_1), (5, i64 x8_1), (16, .bool (decide (v_1 = z14_2)))]) [0, 1, 7, 8, 5, 16] rfl ?_
  refine Zc hS (fun h16 hS => ?_) (fun h16 hS => ?_)
  ·
   refine Zq (Zr ?_)
   refine Zy ?_
   replace hS := up2 hS hK1
   cases hS
   exact Ze
  refine Zk ?_
  refine Zr ?_
  obtain ⟨b18, hS⟩ := gd_s hS
  refine Zu (q_add rfl rfl b18) ?_
  refine Zm ?_
  refine VL.rnd (x8_1 + 1) [0, 1, 7, 8] (fun _ _ h => h) (go2 hS hK1) rfl
 replace hS := up2 hS hK1
 refine Zx ?_
 refine Zq (Zr ?_)
 refine Zy ?_
 cases hS
 exact Ze
theorem cmd_place_ct (verb_0 : Str) {r : Int} (hS : Sh.cmd_place verb_0 = some r) :
 Ct Tryz.prog 27 [str verb_0] Mo.tt (Ow.emp) (X := Unit) (fun _ => i64 r) (fun _ => True) (fun _ => Mo.tt) (fun _ => Ow.emp) := by
 refine Zo Tryz.func27 Tryz.ntmps27 fun c => ?_
 unfold Sh.cmd_place at hS
 refine Zq (Zr ?_)
 refine Zy ?_
 refine Zq (Zr ?_)
 obtain ⟨y3_1, ey3_1, hS⟩ := bd_s hS
 refine VL.callF (cmd_Verbs_ct ey3_1) rfl (by decide) ?_
 rintro q3_1_0 rfl
 try dsimp only
 refine Zm ?_
 obtain ⟨y5_2, ey5_2, hS⟩ := bd_s hS
 refine Zu (q_call (slices_Index_string_string_ct q3_1_0 verb_0 ey5_2) rfl (fun _ _ => rfl)) ?_
 refine Zy ?_
 cases hS
 exact Ze
theorem names_Good_ct (name_0 : Str) {r : Bool} (hS : Sh.names_Good name_0 = some r) :
 Ct Tryz.prog 106 [str name_0] Mo.tt (Ow.emp) (X := Unit) (fun _ => .bool r) (fun _ => True) (fun _ => Mo.tt) (fun _ => Ow.emp) := by
 refine Zo Tryz.func106 Tryz.ntmps106 fun c => ?_
 unfold Sh.names_Good at hS
 refine Zq (Zr ?_)
 refine Zy ?_
 refine Zq (Zq (Zr ?_))
 refine Zm ?_
 obtain ⟨b6, hS⟩ := gd_s hS
 refine VL.s2b Tryz.underlying9 Tryz.underlying64 Tryz.underlying5 rfl b6 (by decide) fun s6_1 hs6_1 => ?_
 replace hS := lt_to hs6_1 hS
 refine Zu (q_ln (s := s6_1) Tryz.underlying64 rfl) ?_
 refine Zy ?_
 refine Zb ?_
 refine VC.iter (S := Int) (fun (x8_3 : Int) => x8_3) (fun (x8_3 : Int) => [(0, str name_0), (6, s6_1.val), (7, i64 (s6_1.l.length : Int)), (8, i64 x8_3)]) (fun (x8_3 : Int) => Mo.tt) (fun (x8_3 : Int) => Ow.emp) 0 [0, 6, 7, 8] hS rfl ?_
 clear hS
 rintro x8_3 m1 y1 hS hK1
 refine Zq (Zr ?_)
 refine Zu (q_lss rfl rfl) ?_
 refine Zl ?_
 refine Zq ?_
 refine Zc hS (fun h9 hS => ?_) (fun h9 hS => ?_)
 ·
  refine Zk ?_
  refine Zq (Zb (Zq (Zr ?_)))
  refine Zm ?_
  obtain ⟨z11_4, nz11_4, hz11_4, hS⟩ := at_s hS
  refine Zu (q_ixm (s := s6_1) Tryz.underlying64 gsz5 rfl rfl nz11_4 (lt_of_get nz11_4 hz11_4)) ?_
  refine Zu (q_el (s := s6_1) gone5 rfl hz11_4 rfl) ?_
  refine Zy ?_
  refine VC.cutJ (S := Bool) (fun (x34_5 : Bool) => x34_5) (fun (x34_5 : Bool) => [(0, str name_0), (6, s6_1.val), (7, i64 (s6_1.l.length : Int)), (8, i64 x8_3), (34, .bool x34_5)]) (fun (x34_5 : Bool) => Mo.tt) (fun (x34_5 : Bool) => Ow.emp) hS ?_ ?_
  ·
   clear hS
   intro k6 hS
   refine Zr ?_
   refine Zm ?_
   refine Zu (q_lss rfl rfl) ?_
   refine Zm ?_
   refine Zsp 15 hS (fun h15 hS => ?_) (fun h15 hS => ?_)
   ·
    refine Zy ?_
    refine Zh (q_eql rfl rfl) ?_
    refine Zg ?_
    refine Zsp 22 hS (fun h22 hS => ?_) (fun h22 hS => ?_)
    ·
     refine VL.skips 10 [32] (by kernel_rfl) ?_
     refine Zh (q_pick_t rfl rfl) ?_
     refine Zt ?_
     refine VL.mt true [0, 6, 7, 8, 34] (fun _ _ h => h) hS rfl
    refine Zg ?_
    refine Zh (q_neq rfl rfl) ?_
    refine Zg ?_
    refine Zspn 25 hS (fun h25 hS => ?_) (fun h25 hS => ?_)
    ·
     refine Zg ?_
     refine Zh (q_lss rfl rfl) ?_
     refine Zg ?_
     refine Zsp 28 hS (fun h28 hS => ?_) (fun h28 hS => ?_)
     ·
      refine Zy ?_
      refine Zh (q_pick_t rfl rfl) ?_
      refine Zh (q_pick_t rfl rfl) ?_
      refine Zh (q_pick_f rfl rfl) ?_
      refine Zt ?_
      refine VL.mt true [0, 6, 7, 8, 34] (fun _ _ h => h) hS rfl
     refine Zg ?_
     refine Zh (q_gtr rfl rfl) ?_
     refine Zh (q_pick_f rfl rfl) ?_
     refine Zh (q_pick_t rfl rfl) ?_
     refine Zh (q_pick_f rfl rfl) ?_
     refine Zt ?_
     refine VL.mt (decide (57 < (z11_4.toNat : Int))) [0, 6, 7, 8, 34] (fun _ _ h => h) hS rfl
    refine VL.skips 6 [31] (by kernel_rfl) ?_
    refine Zh (q_pick_f rfl rfl) ?_
    refine Zh (q_pick_f rfl rfl) ?_
    refine Zt ?_
    refine VL.mt false [0, 6, 7, 8, 34] (fun _ _ h => h) hS rfl
   refine Zg ?_
   refine Zh (q_gtr rfl rfl) ?_
   refine Zy ?_
   refine Zsp 19 hS (fun h19 hS => ?_) (fun h19 hS => ?_)
   ·
    refine Zg ?_
    refine Zh (q_eql rfl rfl) ?_
    refine Zg ?_
    refine Zsp 22 hS (fun h22 hS => ?_) (fun h22 hS => ?_)
    ·
     refine VL.skips 10 [32] (by kernel_rfl) ?_
     refine Zh (q_pick_t rfl rfl) ?_
     refine Zt ?_
     refine VL.mt true [0, 6, 7, 8, 34] (fun _ _ h => h) hS rfl
    refine Zg ?_
    refine Zh (q_neq rfl rfl) ?_
    refine Zg ?_
    refine Zspn 25 hS (fun h25 hS => ?_) (fun h25 hS => ?_)
    ·
     refine Zg ?_
     refine Zh (q_lss rfl rfl) ?_
     refine Zg ?_
     refine Zsp 28 hS (fun h28 hS => ?_) (fun h28 hS => ?_)
     ·
      refine Zy ?_
      refine Zh (q_pick_t rfl rfl) ?_
      refine Zh (q_pick_t rfl rfl) ?_
      refine Zh (q_pick_f rfl rfl) ?_
      refine Zt ?_
      refine VL.mt true [0, 6, 7, 8, 34] (fun _ _ h => h) hS rfl
     refine Zg ?_
     refine Zh (q_gtr rfl rfl) ?_
     refine Zh (q_pick_f rfl rfl) ?_
     refine Zh (q_pick_t rfl rfl) ?_
     refine Zh (q_pick_f rfl rfl) ?_
     refine Zt ?_
     refine VL.mt (decide (57 < (z11_4.toNat : Int))) [0, 6, 7, 8, 34] (fun _ _ h => h) hS rfl
    refine VL.skips 6 [31] (by kernel_rfl) ?_
    refine Zh (q_pick_f rfl rfl) ?_
    refine Zh (q_pick_f rfl rfl) ?_
    refine Zt ?_
    refine VL.mt false [0, 6, 7, 8, 34] (fun _ _ h => h) hS rfl
   refine VL.skips 14 [33] (by kernel_rfl) ?_
   refine Zf ?_
   refine VL.mt false [0, 6, 7, 8, 34] (fun _ _ h => h) hS rfl
  clear hS
  rintro x34_5 hS
  refine Zcb hS (fun h34 hS => ?_) (fun h34 hS => ?_)
  ·
   refine Zq ?_
   cases hS
  refine Zk ?_
  refine Zr ?_
  obtain ⟨b35, hS⟩ := gd_s hS
  refine Zu (q_add rfl rfl b35) ?_
  refine Zm ?_
  refine VL.rnd (x8_3 + 1) [0, 6, 7, 8] (fun _ _ h => h) (go2 hS hK1) rfl
 replace hS := up2 hS hK1
 refine Zx ?_
 refine Zq (Zr ?_)
 refine Zm ?_
 refine Zu (q_slen Tryz.underlying9 rfl) ?_
 refine Zu (q_geq rfl rfl) ?_
 refine Zm ?_
 refine Zsp 39 hS (fun h39 hS => ?_) (fun h39 hS => ?_)
 ·
  refine Zg ?_
  refine Zh (q_slen Tryz.underlying9 rfl) ?_
  refine Zh (q_leq rfl rfl) ?_
  refine Zy ?_
  refine VC.keep (ρ' := [(2, .bool (decide ((name_0.length : Int) ≤ 32)))]) [2] rfl ?_
  cases hS
  exact Ze
 refine VL.skips 3 [42] (by kernel_rfl) ?_
 refine Zy ?_
 refine VC.keep (ρ' := [(2, .bool false)]) [2] rfl ?_
 cases hS
 exact Ze
theorem cmd_name_ct (c_0 : CmdCmd) {r : Int} (hS : Sh.cmd_name c_0.pl = some r) :
 Ct Tryz.prog 55 [.agg #[str c_0.verb, str c_0.name, i64 c_0.n, str c_0.text, .bool c_0.force, c_0.todo.val]] c_0.todo.ok (Ow.emp) (X := Unit) (fun _ => i64 r) (fun _ => True) (fun _ => Mo.tt) (fun _ => Ow.emp) := by
 refine Zo Tryz.func55 Tryz.ntmps55 fun c => ?_
 unfold Sh.cmd_name at hS
 refine Zq (Zr ?_)
 refine VL.box (cs := [str c_0.verb, str c_0.name, i64 c_0.n, str c_0.text, .bool c_0.force, c_0.todo.val]) rfl rfl (by decide) fun b1_1 => ?_
 refine Zy ?_
 refine Zq (Zr ?_)
 refine Zy ?_
 refine VC.cutJ (S := Bool) (fun (ok3_2 : Bool) => ok3_2) (fun (ok3_2 : Bool) => [(3, .bool ok3_2)]) (fun (ok3_2 : Bool) => Mo.tt) (fun (ok3_2 : Bool) => Ow.star (Blk b1_1 [str c_0.verb, str c_0.name, i64 c_0.n, str c_0.text, .bool c_0.force, c_0.todo.val] 60) (Ow.emp)) hS ?_ ?_
 ·
  clear hS
  intro k3 hS
  refine Zq (Zr ?_)
  refine Zu (q_field gfa60_0 rfl) ?_
  refine Zu (q_fe gone9 rfl rfl) ?_
  refine Zl ?_
  refine Zb ?_
  refine VC.cutJ (S := Unit) (fun (_ : Unit) => ()) (fun (_ : Unit) => [(1, ptr b1_1 0)]) (fun (_ : Unit) => Mo.tt) (fun (_ : Unit) => Ow.star (Blk b1_1 [str c_0.verb, str c_0.name, i64 c_0.n, str c_0.text, .bool c_0.force, c_0.todo.val] 60) (Ow.emp)) hS ?_ ?_
  ·
   clear hS
   intro k4 hS
   refine Zb ?_
   refine VC.cutJ (S := Unit) (fun (_ : Unit) => ()) (fun (_ : Unit) => [(1, ptr b1_1 0)]) (fun (_ : Unit) => Mo.tt) (fun (_ : Unit) => Ow.star (Blk b1_1 [str c_0.verb, str c_0.name, i64 c_0.n, str c_0.text, .bool c_0.force, c_0.todo.val] 60) (Ow.emp)) hS ?_ ?_
   ·
    clear hS
    intro k5 hS
    refine Zb ?_
    refine VC.cutJ (S := Unit) (fun (_ : Unit) => ()) (fun (_ : Unit) => [(1, ptr b1_1 0)]) (fun (_ : Unit) => Mo.tt) (fun (_ : Unit) => Ow.star (Blk b1_1 [str c_0.verb, str c_0.name, i64 c_0.n, str c_0.text, .bool c_0.force, c_0.todo.val] 60) (Ow.emp)) hS ?_ ?_
    ·
     clear hS
     intro k6 hS
     refine Zb ?_
     refine VC.cutJ (S := Unit) (fun (_ : Unit) => ()) (fun (_ : Unit) => [(1, ptr b1_1 0)]) (fun (_ : Unit) => Mo.tt) (fun (_ : Unit) => Ow.star (Blk b1_1 [str c_0.verb, str c_0.name, i64 c_0.n, str c_0.text, .bool c_0.force, c_0.todo.val] 60) (Ow.emp)) hS ?_ ?_
     ·
      clear hS
      intro k7 hS
      refine Zb (Zq (Zb (Zq (Zq (Zq (Zr ?_))))))
      refine Zy ?_
      refine Zc hS (fun h6 hS => ?_) (fun h6 hS => ?_)
      ·
       refine Zx ?_
       refine Zq (Zr ?_)
       refine Zu (q_field gfa60_1 rfl) ?_
       refine Zu (q_fe gone9 rfl rfl) ?_
       refine Zy ?_
       refine VC.keep (ρ' := [(1, ptr b1_1 0), (20, .bool (decide (c_0.name = [])))]) [1, 20] rfl ?_
       refine Zc hS (fun h20 hS => ?_) (fun h20 hS => ?_)
       ·
        refine Zq ?_
        cases hS
       refine VC.skip_mt () [1] (fun _ _ h => h) hS rfl
      refine Zk ?_
      refine Zq (Zq (Zr ?_))
      refine Zy ?_
      refine Zc hS (fun h8 hS => ?_) (fun h8 hS => ?_)
      ·
       refine VC.exit_mt () [1] (fun _ _ h => h) hS rfl
      refine Zk ?_
      refine VC.cutJ (S := Unit) (fun (_ : Unit) => ()) (fun (_ : Unit) => [(1, ptr b1_1 0), (3, .bool true), (5, str c_0.verb)]) (fun (_ : Unit) => Mo.tt) (fun (_ : Unit) => Ow.star (Blk b1_1 [str c_0.verb, str c_0.name, i64 c_0.n, str c_0.text, .bool c_0.force, c_0.todo.val] 60) (Ow.emp)) hS ?_ ?_
      ·
       clear hS
       intro k8 hS
       refine Zq (Zq (Zr ?_))
       refine Zy ?_
       refine VC.keep (ρ' := [(1, ptr b1_1 0), (3, .bool true), (5, str c_0.verb), (10, .bool (decide (c_0.verb = [98, 114, 97, 110, 99, 104])))]) [1, 3, 5, 10] rfl ?_
       refine Zc hS (fun h10 hS => ?_) (fun h10 hS => ?_)
       ·
        refine Zk ?_
        refine Zc hS (fun h10 hS => ?_) (fun h10 hS => ?_)
        ·
         refine VC.exit_mt () [1] (fun _ _ h => h) hS rfl
        refine VC.skip_mt () [1, 3, 5] (fun _ _ h => h) hS rfl
       refine Zq (Zr ?_)
       refine Zy ?_
       refine Zc hS (fun h10 hS => ?_) (fun h10 hS => ?_)
       ·
        refine Zk ?_
        refine Zc hS (fun h10 hS => ?_) (fun h10 hS => ?_)
        ·
         refine VC.exit_mt () [1] (fun _ _ h => h) hS rfl
        refine VC.skip_mt () [1, 3, 5] (fun _ _ h => h) hS rfl
       refine Zr ?_
       refine Zy ?_
       refine Zc hS (fun h10 hS => ?_) (fun h10 hS => ?_)
       ·
        refine VC.exit_mt () [1] (fun _ _ h => h) hS rfl
       refine VC.skip_mt () [1, 3, 5] (fun _ _ h => h) hS rfl
      clear hS
      rintro _ hS
      refine Zq (Zq (Zr ?_))
      refine Zy ?_
      refine Zc hS (fun h14 hS => ?_) (fun h14 hS => ?_)
      ·
       refine VC.exit_mt () [1] (fun _ _ h => h) hS rfl
      refine Zk ?_
      refine Zq (Zr ?_)
      refine Zy ?_
      refine Zc hS (fun h16 hS => ?_) (fun h16 hS => ?_)
      ·
       refine VC.exit_mt () [1] (fun _ _ h => h) hS rfl
      refine Zk ?_
      refine VC.exit_mt true [3] (fun _ _ h => h) hS rfl
     clear hS
     rintro _ hS
     refine Zq (Zq (Zr ?_))
     refine Zu (q_field gfa60_1 rfl) ?_
     refine Zu (q_fe gone9 rfl rfl) ?_
     obtain ⟨y23_9, ey23_9, hS⟩ := bd_s hS
     refine Zu (q_call (path_Check_ct c_0.name ey23_9) rfl (fun _ _ => rfl)) ?_
     refine Zy ?_
     cases hS
     exact Ze
    clear hS
    rintro _ hS
    refine Zq (Zr ?_)
    refine Zu (q_field gfa60_1 rfl) ?_
    refine Zu (q_fe gone9 rfl rfl) ?_
    obtain ⟨y26_10, ey26_10, hS⟩ := bd_s hS
    refine Zu (q_call (names_Good_ct c_0.name ey26_10) rfl (fun _ _ => rfl)) ?_
    refine Zy ?_
    refine VC.exit_mt y26_10 [3] (fun _ _ h => h) hS rfl
   clear hS
   rintro _ hS
   refine Zq (Zr ?_)
   refine Zu (q_field gfa60_1 rfl) ?_
   refine Zu (q_fe gone9 rfl rfl) ?_
   refine Zy ?_
   refine Zsp 30 hS (fun h30 hS => ?_) (fun h30 hS => ?_)
   ·
    refine VL.skips 3 [33] (by kernel_rfl) ?_
    refine Zy ?_
    refine VC.exit_mt true [3] (fun _ _ h => h) hS rfl
   refine Zh (q_field gfa60_1 rfl) ?_
   refine Zh (q_fe gone9 rfl rfl) ?_
   obtain ⟨y33_11, ey33_11, hS⟩ := bd_s hS
   refine Zh (q_call (names_Good_ct c_0.name ey33_11) rfl (fun _ _ => rfl)) ?_
   refine Zy ?_
   refine VC.exit_mt y33_11 [3] (fun _ _ h => h) hS rfl
  clear hS
  rintro _ hS
  refine Zq ?_
  cases hS
 clear hS
 rintro ok3_2 hS
 refine Zq (Zq (Zr ?_))
 refine Zm ?_
 refine Zu (q_not rfl) ?_
 refine Zl ?_
 refine Zcb hS (fun h49 hS => ?_) (fun h49 hS => ?_)
 ·
  refine Zq ?_
  cases hS
 refine Zk ?_
 refine Zq (Zr ?_)
 refine Zy ?_
 cases hS
 exact Ze
theorem cmd_number_ct (c_0 : CmdCmd) {r : Int} (hS : Sh.cmd_number c_0.pl = some r) :
 Ct Tryz.prog 56 [.agg #[str c_0.verb, str c_0.name, i64 c_0.n, str c_0.text, .bool c_0.force, c_0.todo.val]] c_0.todo.ok (Ow.emp) (X := Unit) (fun _ => i64 r) (fun _ => True) (fun _ => Mo.tt) (fun _ => Ow.emp) := by
 refine Zo Tryz.func56 Tryz.ntmps56 fun c => ?_
 unfold Sh.cmd_number at hS
 refine Zq (Zr ?_)
 refine VL.box (cs := [str c_0.verb, str c_0.name, i64 c_0.n, str c_0.text, .bool c_0.force, c_0.todo.val]) rfl rfl (by decide) fun b1_1 => ?_
 refine Zy ?_
 refine Zq (Zr ?_)
 refine Zu (q_field gfa60_2 rfl) ?_
 refine Zu (q_fe gone3 rfl rfl) ?_
 refine Zy ?_
 refine VC.cutJ (S := Unit) (fun (_ : Unit) => ()) (fun (_ : Unit) => [(1, ptr b1_1 0), (3, i64 c_0.n)]) (fun (_ : Unit) => Mo.tt) (fun (_ : Unit) => Ow.star (Blk b1_1 [str c_0.verb, str c_0.name, i64 c_0.n, str c_0.text, .bool c_0.force, c_0.todo.val] 60) (Ow.emp)) hS ?_ ?_
 ·
  clear hS
  intro k2 hS
  refine Zq (Zr ?_)
  refine Zu (q_field gfa60_0 rfl) ?_
  refine Zu (q_fe gone9 rfl rfl) ?_
  refine Zl ?_
  refine Zb (Zq (Zb (Zq (Zb (Zq (Zb (Zq ?_)))))))
  refine VC.cutJ (S := Unit) (fun (_ : Unit) => ()) (fun (_ : Unit) => [(1, ptr b1_1 0), (3, i64 c_0.n), (7, str c_0.verb)]) (fun (_ : Unit) => Mo.tt) (fun (_ : Unit) => Ow.star (Blk b1_1 [str c_0.verb, str c_0.name, i64 c_0.n, str c_0.text, .bool c_0.force, c_0.todo.val] 60) (Ow.emp)) hS ?_ ?_
  ·
   clear hS
   intro k3 hS
   refine Zq (Zq (Zr ?_))
   refine Zy ?_
   refine Zc hS (fun h8 hS => ?_) (fun h8 hS => ?_)
   ·
    refine Zk ?_
    refine Zc hS (fun h8 hS => ?_) (fun h8 hS => ?_)
    ·
     refine Zx ?_
     refine Zq ?_
     cases hS
    refine VC.skip_mt () [1, 3, 7] (fun _ _ h => h) hS rfl
   refine Zq (Zr ?_)
   refine Zy ?_
   refine VC.keep (ρ' := [(1, ptr b1_1 0), (3, i64 c_0.n), (7, str c_0.verb), (8, .bool (decide (c_0.verb = [97, 112, 112, 108, 121])))]) [1, 3, 7, 8] rfl ?_
   refine Zc hS (fun h8 hS => ?_) (fun h8 hS => ?_)
   ·
    refine Zk ?_
    refine Zc hS (fun h8 hS => ?_) (fun h8 hS => ?_)
    ·
     refine Zx ?_
     refine Zq ?_
     cases hS
    refine VC.skip_mt () [1, 3, 7] (fun _ _ h => h) hS rfl
   refine Zr ?_
   refine Zy ?_
   refine Zc hS (fun h8 hS => ?_) (fun h8 hS => ?_)
   ·
    refine Zx ?_
    refine Zq ?_
    cases hS
   refine VC.skip_mt () [1, 3, 7] (fun _ _ h => h) hS rfl
  clear hS
  rintro _ hS
  refine Zq (Zq (Zr ?_))
  refine Zy ?_
  refine Zc hS (fun h12 hS => ?_) (fun h12 hS => ?_)
  ·
   refine Zx ?_
   refine Zq (Zr ?_)
   refine Zu (q_field gfa60_1 rfl) ?_
   refine Zu (q_fe gone9 rfl rfl) ?_
   refine Zu (q_sne rfl rfl) ?_
   refine Zl ?_
   refine Zcn hS (fun h21 hS => ?_) (fun h21 hS => ?_)
   ·
    refine VC.exit_mt () [1, 3] (fun _ _ h => h) hS rfl
   refine Zk ?_
   refine Zq ?_
   cases hS
  refine Zk ?_
  refine Zq (Zq (Zr ?_))
  refine Zy ?_
  refine Zc hS (fun h14 hS => ?_) (fun h14 hS => ?_)
  ·
   refine Zk ?_
   refine Zc hS (fun h14 hS => ?_) (fun h14 hS => ?_)
   ·
    refine Zx ?_
    refine Zq ?_
    cases hS
   refine Zk ?_
   refine VC.exit_mt () [1, 3] (fun _ _ h => h) hS rfl
  refine Zq (Zr ?_)
  refine Zy ?_
  refine Zc hS (fun h14 hS => ?_) (fun h14 hS => ?_)
  ·
   refine Zk ?_
   refine Zc hS (fun h14 hS => ?_) (fun h14 hS => ?_)
   ·
    refine Zx ?_
    refine Zq ?_
    cases hS
   refine Zk ?_
   refine VC.exit_mt () [1, 3] (fun _ _ h => h) hS rfl
  refine Zq (Zr ?_)
  refine Zy ?_
  refine Zc hS (fun h14 hS => ?_) (fun h14 hS => ?_)
  ·
   refine Zk ?_
   refine Zc hS (fun h14 hS => ?_) (fun h14 hS => ?_)
   ·
    refine Zx ?_
    refine Zq ?_
    cases hS
   refine Zk ?_
   refine VC.exit_mt () [1, 3] (fun _ _ h => h) hS rfl
  refine Zr ?_
  refine Zy ?_
  refine Zc hS (fun h14 hS => ?_) (fun h14 hS => ?_)
  ·
   refine Zx ?_
   refine Zq ?_
   cases hS
  refine Zk ?_
  refine VC.exit_mt () [1, 3] (fun _ _ h => h) hS rfl
 clear hS
 rintro _ hS
 refine Zq (Zq (Zr ?_))
 refine Zu (q_field gfa60_2 rfl) ?_
 refine Zu (q_fe gone3 rfl rfl) ?_
 refine Zm ?_
 refine Zu (q_lss rfl rfl) ?_
 refine Zl ?_
 refine Zc hS (fun h25 hS => ?_) (fun h25 hS => ?_)
 ·
  refine Zq ?_
  cases hS
 refine Zk ?_
 refine Zq (Zr ?_)
 refine Zy ?_
 cases hS
 exact Ze
theorem strings_Contains_ct (s_0 : Str) (substr_1 : Str) {r : Bool} (hS : Sh.strings_Contains s_0 substr_1 = some r) :
 Ct Tryz.prog 186 [str s_0, str substr_1] Mo.tt (Ow.emp) (X := Unit) (fun _ => .bool r) (fun _ => True) (fun _ => Mo.tt) (fun _ => Ow.emp) := by
 refine Zo Tryz.func186 Tryz.ntmps186 fun c => ?_
 unfold Sh.strings_Contains at hS
 refine Zq (Zr ?_)
 refine Zy ?_
 refine Zq (Zr ?_)
 refine Zy ?_
 obtain ⟨y7_1, ey7_1, hS⟩ := bd_s hS
 refine Zu (q_call (strings_Index_ct s_0 substr_1 ey7_1) rfl (fun _ _ => rfl)) ?_
 refine Zu (q_geq rfl rfl) ?_
 refine Zy ?_
 cases hS
 exact Ze
theorem cmd_text_ct (s_0 : Str) (must_1 : Bool) {r : Int} (hS : Sh.cmd_text s_0 must_1 = some r) :
 Ct Tryz.prog 107 [str s_0, .bool must_1] Mo.tt (Ow.emp) (X := Unit) (fun _ => i64 r) (fun _ => True) (fun _ => Mo.tt) (fun _ => Ow.emp) := by
 refine Zo Tryz.func107 Tryz.ntmps107 fun c => ?_
 unfold Sh.cmd_text at hS
 refine Zq (Zr ?_)
 refine Zy ?_
 refine Zq (Zb (Zq (Zr ?_)))
 refine Zm ?_
 refine Zu (q_slen Tryz.underlying9 rfl) ?_
 refine Zu (q_gtr rfl rfl) ?_
 refine Zy ?_
 refine Zc hS (fun h5 hS => ?_) (fun h5 hS => ?_)
 ·
  refine Zq ?_
  cases hS
 refine VC.cutJ (S := Bool) (fun (x9_1 : Bool) => x9_1) (fun (x9_1 : Bool) => [(0, str s_0), (9, .bool x9_1)]) (fun (x9_1 : Bool) => Mo.tt) (fun (x9_1 : Bool) => Ow.emp) hS ?_ ?_
 ·
  clear hS
  intro k2 hS
  refine Zr ?_
  refine Zy ?_
  refine Zspb 11 hS (fun h11 hS => ?_) (fun h11 hS => ?_)
  ·
   refine Zg ?_
   refine Zh (q_seq rfl rfl) ?_
   refine Zy ?_
   refine VL.mt (decide (s_0 = [])) [0, 9] (fun _ _ h => h) hS rfl
  refine Zy ?_
  refine VL.mt false [0, 9] (fun _ _ h => h) hS rfl
 clear hS
 rintro x9_1 hS
 refine Zcb hS (fun h9 hS => ?_) (fun h9 hS => ?_)
 ·
  refine Zq ?_
  cases hS
 refine Zq (Zr ?_)
 refine Zm ?_
 obtain ⟨y17_3, ey17_3, hS⟩ := bd_s hS
 refine Zu (q_call (strings_Contains_ct s_0 [10] ey17_3) rfl (fun _ _ => rfl)) ?_
 refine Zy ?_
 refine Zcb hS (fun h15 hS => ?_) (fun h15 hS => ?_)
 ·
  refine Zq ?_
  cases hS
 refine Zk ?_
 refine Zq (Zr ?_)
 refine Zy ?_
 cases hS
 exact Ze
theorem cmd_more_ct (c_0 : CmdCmd) {r : Int} (hS : Sh.cmd_more c_0.pl = some r) :
 Ct Tryz.prog 57 [.agg #[str c_0.verb, str c_0.name, i64 c_0.n, str c_0.text, .bool c_0.force, c_0.todo.val]] c_0.todo.ok (Ow.emp) (X := Unit) (fun _ => i64 r) (fun _ => True) (fun _ => Mo.tt) (fun _ => Ow.emp) := by
 refine Zo Tryz.func57 Tryz.ntmps57 fun c => ?_
 unfold Sh.cmd_more at hS
 refine Zq (Zr ?_)
 refine VL.box (cs := [str c_0.verb, str c_0.name, i64 c_0.n, str c_0.text, .bool c_0.force, c_0.todo.val]) rfl rfl (by decide) fun b1_1 => ?_
 refine Zy ?_
 refine Zq (Zq (Zr ?_))
 refine Zu (q_field gfa60_0 rfl) ?_
 refine Zu (q_fe gone9 rfl rfl) ?_
 refine Zl ?_
 refine Zb ?_
 refine VC.cutJ (S := Bool) (fun (x5_2 : Bool) => x5_2) (fun (x5_2 : Bool) => [(1, ptr b1_1 0), (4, str c_0.verb), (5, .bool x5_2)]) (fun (x5_2 : Bool) => Mo.tt) (fun (x5_2 : Bool) => Ow.star (Blk b1_1 [str c_0.verb, str c_0.name, i64 c_0.n, str c_0.text, .bool c_0.force, c_0.todo.val] 60) (Ow.emp)) hS ?_ ?_
 ·
  clear hS
  intro k3 hS
  refine Zq (Zr ?_)
  refine Zy ?_
  refine Zc hS (fun h5 hS => ?_) (fun h5 hS => ?_)
  ·
   refine VC.skip_mt (decide (c_0.verb = [99, 111, 109, 109, 105, 116])) [1, 4, 5] (fun _ _ h => h) hS rfl
  refine Zr ?_
  refine Zy ?_
  refine VL.mt (decide (c_0.verb = [115, 116, 97, 115, 104])) [1, 4, 5] (fun _ _ h => h) hS rfl
 clear hS
 rintro x5_2 hS
 refine Zcb hS (fun h5 hS => ?_) (fun h5 hS => ?_)
 ·
  refine Zq (Zr ?_)
  refine Zu (q_field gfa60_3 rfl) ?_
  refine Zu (q_fe gone9 rfl rfl) ?_
  refine Zu (q_field gfa60_0 rfl) ?_
  refine Zu (q_fe gone9 rfl rfl) ?_
  refine Zs ?_
  obtain ⟨y13_4, ey13_4, hS⟩ := bd_s hS
  refine Zu (q_call (cmd_text_ct c_0.text (decide (c_0.verb = [99, 111, 109, 109, 105, 116])) ey13_4) rfl (fun _ _ => rfl)) ?_
  refine Zy ?_
  cases hS
  exact Ze
 refine Zq (Zr ?_)
 refine Zy ?_
 refine Zc hS (fun h14 hS => ?_) (fun h14 hS => ?_)
 ·
  refine Zq ?_
  cases hS
 refine Zk ?_
 refine Zq (Zr ?_)
 refine Zy ?_
 cases hS
 exact Ze
theorem cmd_Check_ct (c_0 : CmdCmd) {r : Err} (hS : Sh.cmd_Check c_0.pl = some r) :
 Ct Tryz.prog 30 [.agg #[str c_0.verb, str c_0.name, i64 c_0.n, str c_0.text, .bool c_0.force, c_0.todo.val]] c_0.todo.ok (Ow.emp) (X := Er) (fun x => x.val) (fun x => r = x.pl) (fun x => x.ok) (fun x => Ow.emp) := by
 refine Zo Tryz.func30 Tryz.ntmps30 fun c => ?_
 unfold Sh.cmd_Check at hS
 refine Zq (Zr ?_)
 refine VL.box (cs := [str c_0.verb, str c_0.name, i64 c_0.n, str c_0.text, .bool c_0.force, c_0.todo.val]) rfl rfl (by decide) fun b1_1 => ?_
 refine Zy ?_
 refine Zq (Zq (Zr ?_))
 refine Zu (q_field gfa60_0 rfl) ?_
 refine Zu (q_fe gone9 rfl rfl) ?_
 obtain ⟨y7_2, ey7_2, hS⟩ := bd_s hS
 refine Zu (q_call (cmd_place_ct c_0.verb ey7_2) rfl (fun _ _ => rfl)) ?_
 refine Zu (q_lss rfl rfl) ?_
 refine Zl ?_
 refine Zc hS (fun h8 hS => ?_) (fun h8 hS => ?_)
 ·
  refine Zq ?_
  cases hS
 refine Zk ?_
 refine Zq (Zq ?_)
 refine VC.draw [(0, true), (1, true), (2, true), (3, true), (4, true), (5, true), (8, true), (6, false), (7, true)] mixed (by kernel_rfl) (by kernel_rfl) (by kernel_rfl) ?_
 refine Zw rfl (q_fes gagg60 rfl rfl) ?_
 obtain ⟨y13_3, ey13_3, hS⟩ := bd_s hS
 refine Zw rfl (q_call (cmd_name_ct c_0 ey13_3) rfl (fun _ _ => rfl)) ?_
 refine Zw rfl (q_fes gagg60 rfl rfl) ?_
 obtain ⟨y15_4, ey15_4, hS⟩ := bd_s hS
 refine Zw rfl (q_call (cmd_number_ct c_0 ey15_4) rfl (fun _ _ => rfl)) ?_
 refine Zw rfl (q_fes gagg60 rfl rfl) ?_
 obtain ⟨y17_5, ey17_5, hS⟩ := bd_s hS
 refine Zw rfl (q_call (cmd_more_ct c_0 ey17_5) rfl (fun _ _ => rfl)) ?_
 refine Zw rfl (q_move rfl) ?_
 refine VD.one rfl ?_
 refine VL.lit (α := Int) (xs := [.tmp 13, .tmp 15, .tmp 17]) (vs := [i64 y13_3, i64 y15_4, i64 y17_5]) [y13_3, y15_4, y17_5] Tryz.underlying134 glit50 (by decide) rfl rfl rfl rfl (by decide) (fun _ _ _ _ => trivial) (by decide) (fun s18_6 hs18_6 => ?_) (by decide)
 replace hS := lt_to hs18_6 hS
 refine VL.back (D' := []) (by kernel_rfl) (Pend.nil) ?_
 refine Zw rfl (q_ln (s := s18_6) Tryz.underlying134 rfl) ?_
 refine VD.to (fun _ _ h => h) ?_
 refine VC.keep (ρ' := [(1, ptr b1_1 0), (20, i64 0), (18, s18_6.val), (19, i64 (s18_6.l.length : Int))]) [1, 20, 18, 19] rfl ?_
 refine Zb ?_
 refine VC.iter (S := Int) (fun (x20_8 : Int) => x20_8) (fun (x20_8 : Int) => [(1, ptr b1_1 0), (18, s18_6.val), (19, i64 (s18_6.l.length : Int)), (20, i64 x20_8)]) (fun (x20_8 : Int) => Mo.tt) (fun (x20_8 : Int) => Ow.star (Blk b1_1 [str c_0.verb, str c_0.name, i64 c_0.n, str c_0.text, .bool c_0.force, c_0.todo.val] 60) (Ow.emp)) 0 [1, 18, 19, 20] hS rfl ?_
 clear hS
 rintro x20_8 m1 y1 hS hK1
 refine Zq (Zr ?_)
 refine Zu (q_lss rfl rfl) ?_
 refine Zl ?_
 refine Zq ?_
 refine Zc hS (fun h21 hS => ?_) (fun h21 hS => ?_)
 ·
  refine Zk ?_
  refine Zq (Zb (Zq (Zr ?_)))
  obtain ⟨z22_9, nz22_9, hz22_9, hS⟩ := at_s hS
  refine Zu (q_ixm (s := s18_6) Tryz.underlying134 gsz50 rfl rfl nz22_9 (lt_of_get nz22_9 hz22_9)) ?_
  refine Zu (q_el (s := s18_6) gone50 rfl hz22_9 rfl) ?_
  refine Zy ?_
  refine Zq (Zr ?_)
  refine Zm ?_
  refine Zu (q_neq rfl rfl) ?_
  refine Zl ?_
  refine Zcn hS (fun h25 hS => ?_) (fun h25 hS => ?_)
  ·
   refine Zq ?_
   cases hS
  refine Zk ?_
  refine Zr ?_
  obtain ⟨b30, hS⟩ := gd_s hS
  refine Zu (q_add rfl rfl b30) ?_
  refine Zm ?_
  refine VL.rnd (x20_8 + 1) [1, 18, 19, 20] (fun _ _ h => h) (go2 hS hK1) rfl
 replace hS := up2 hS hK1
 refine Zx ?_
 refine Zq (Zr ?_)
 refine Zy ?_
 cases hS
 exact VC.ret (fin1 (.inr rfl) rfl rfl .nil rfl rfl (by (try dsimp only); exact InM.out) (fun _ _ => trivial))
theorem cmd_Parse_ct (s_0 : Str) {r : CmdCmdP × Err} (hS : Sh.cmd_Parse s_0 = some r) :
 Ct Tryz.prog 14 [str s_0] Mo.tt (Ow.emp) (X := CmdCmd × Er) (fun x => .tuple #[.agg (Dat.enc x.1).toArray, x.2.val]) (fun x => r = (x.1.pl, x.2.pl)) (fun x => (x.1.m.and x.2.ok)) (fun x => Ow.emp) := by
 refine Zo Tryz.func14 Tryz.ntmps14 fun c => ?_
 unfold Sh.cmd_Parse at hS
 refine Zq (Zr ?_)
 refine VL.alloc (cs := [str [], str [], i64 0, str [], .bool false, .slice none 0 0]) (by kernel_rfl) (by decide) fun b2_1 => ?_
 refine Zy ?_
 refine Zq (Zr ?_)
 refine Zm ?_
 obtain ⟨y14_2, ey14_2, hS⟩ := bd_s hS
 refine Zu (q_call (strings_Cut_ct s_0 [10] ey14_2) rfl (fun _ _ => rfl)) ?_
 refine Zm ?_
 refine Zu (q_extract rfl rfl) ?_
 refine Zu (q_extract rfl rfl) ?_
 refine Zu (q_extract rfl rfl) ?_
 refine Zy ?_
 refine VC.keep (ρ' := [(2, ptr b2_1 0), (4, str y14_2.1), (5, str y14_2.2.1), (6, .bool y14_2.2.2)]) [2, 4, 5, 6] rfl ?_
 refine Zq (Zr ?_)
 refine Zm ?_
 obtain ⟨y20_3, ey20_3, hS⟩ := bd_s hS
 refine VL.callF (cmd_read_ct y14_2.1 ey20_3) rfl (by decide) ?_
 rintro ⟨q20_3_0, q20_3_1⟩ rfl
 try dsimp only
 refine Zm ?_
 refine Zu (q_extract rfl rfl) ?_
 refine Zu (q_extract rfl rfl) ?_
 refine VL.alloc (cs := [str [], str [], i64 0, str [], .bool false, .slice none 0 0]) (by kernel_rfl) (by decide) fun b7_4 => ?_
 refine Zv (vc := [str q20_3_0.verb, str q20_3_0.name, i64 q20_3_0.n, str q20_3_0.text, .bool q20_3_0.force, q20_3_0.todo.val]) (cs' := [str q20_3_0.verb, str q20_3_0.name, i64 q20_3_0.n, str q20_3_0.text, .bool q20_3_0.force, q20_3_0.todo.val]) rfl gsz60 ?_
 refine Zy ?_
 refine Zq (Zb (Zq (Zr ?_)))
 refine Zu (q_field gfa60_0 rfl) ?_
 refine Zu (q_fe gone9 rfl rfl) ?_
 obtain ⟨y26_5, ey26_5, hS⟩ := bd_s hS
 refine Zu (q_call (cmd_place_ct q20_3_0.verb ey26_5) rfl (fun _ _ => rfl)) ?_
 refine Zu (q_lss rfl rfl) ?_
 refine Zy ?_
 refine VC.keep (ρ' := [(2, ptr b2_1 0), (5, str y14_2.2.1), (6, .bool y14_2.2.2), (7, ptr b7_4 0), (8, .bool q20_3_1), (23, .bool (decide (y26_5 < 0)))]) [2, 5, 6, 7, 8, 23] rfl ?_
 refine Zc hS (fun h23 hS => ?_) (fun h23 hS => ?_)
 ·
  refine Zq ?_
  cases hS
 refine VC.cutJ (S := Bool) (fun (x32_6 : Bool) => x32_6) (fun (x32_6 : Bool) => [(2, ptr b2_1 0), (5, str y14_2.2.1), (7, ptr b7_4 0), (32, .bool x32_6)]) (fun (x32_6 : Bool) => Mo.tt) (fun (x32_6 : Bool) => Ow.star (Blk b7_4 [str q20_3_0.verb, str q20_3_0.name, i64 q20_3_0.n, str q20_3_0.text, .bool q20_3_0.force, q20_3_0.todo.val] 60) (Ow.star (Blk b2_1 [str [], str [], i64 0, str [], .bool false, .slice none 0 0] 60) (Ow.emp))) hS ?_ ?_
 ·
  clear hS
  intro k7 hS
  refine Zr ?_
  refine Zm ?_
  refine Zu (q_not rfl) ?_
  refine Zm ?_
  refine Zspb 35 hS (fun h35 hS => ?_) (fun h35 hS => ?_)
  ·
   refine VL.skips 6 [41] (by kernel_rfl) ?_
   refine Zy ?_
   refine VL.mt true [2, 5, 7, 32] (fun _ _ h => h) hS rfl
  refine Zy ?_
  refine Zspb 37 hS (fun h37 hS => ?_) (fun h37 hS => ?_)
  ·
   refine Zh (q_field gfa60_0 rfl) ?_
   refine Zh (q_fe gone9 rfl rfl) ?_
   refine Zh (q_sne rfl rfl) ?_
   refine Zh (q_pick_t rfl rfl) ?_
   refine Zy ?_
   refine VL.mt (!decide (q20_3_0.verb = [114, 101, 98, 97, 115, 101])) [2, 5, 7, 32] (fun _ _ h => h) hS rfl
  refine VL.skips 3 [40] (by kernel_rfl) ?_
  refine Zh (q_pick_f rfl rfl) ?_
  refine Zy ?_
  refine VL.mt false [2, 5, 7, 32] (fun _ _ h => h) hS rfl
 clear hS
 rintro x32_6 hS
 refine Zcb hS (fun h32 hS => ?_) (fun h32 hS => ?_)
 ·
  refine Zq ?_
  cases hS
 refine Zq (Zr ?_)
 refine Zu (q_field gfa60_0 rfl) ?_
 refine Zu (q_fe gone9 rfl rfl) ?_
 refine Zy ?_
 refine Zc hS (fun h47 hS => ?_) (fun h47 hS => ?_)
 ·
  refine Zq ?_
  cases hS
 refine Zk ?_
 refine Zq (Zq (Zr ?_))
 refine Zu (q_fes gagg60 rfl rfl) ?_
 obtain ⟨y65_8, ey65_8, hS⟩ := bd_s hS
 refine VL.callF (cmd_Check_ct q20_3_0 ey65_8) rfl (by decide) ?_
 rintro q65_8_0 rfl
 try dsimp only
 refine Zy ?_
 refine VC.keep (ρ' := [(2, ptr b2_1 0), (7, ptr b7_4 0), (11, q65_8_0.val)]) [2, 7, 11] rfl ?_
 refine Zq (Zr ?_)
 refine Zm ?_
 refine Zu (q_erne Tryz.underlying45 rfl) ?_
 refine Zl ?_
 refine Zcn hS (fun h67 hS => ?_) (fun h67 hS => ?_)
 ·
  refine Zq ?_
  cases hS
 refine Zk ?_
 refine Zq (Zr ?_)
 refine Zu (q_fes gagg60 rfl rfl) ?_
 refine Zv (vc := [str q20_3_0.verb, str q20_3_0.name, i64 q20_3_0.n, str q20_3_0.text, .bool q20_3_0.force, q20_3_0.todo.val]) (cs' := [str q20_3_0.verb, str q20_3_0.name, i64 q20_3_0.n, str q20_3_0.text, .bool q20_3_0.force, q20_3_0.todo.val]) rfl gsz60 ?_
 refine Zy ?_
 cases hS
 exact VC.ret (finG (vs := [.agg #[str q20_3_0.verb, str q20_3_0.name, i64 q20_3_0.n, str q20_3_0.text, .bool q20_3_0.force, q20_3_0.todo.val], .nilIface]) (.inr rfl) rfl (RVs.cell gagg60 rfl rfl Rd.blk (RVs.tmp rfl (RVs.nil))) (⟨q20_3_0.verb, q20_3_0.name, q20_3_0.n, q20_3_0.text, q20_3_0.force, q20_3_0.todo⟩, .nil) rfl rfl (by (try dsimp only); exact InM.out) (fun _ _ => trivial))
theorem repo_known_ct (l_0 : Sv IndexEntry) (p_1 : Str) {r : Bool} (hS : Sh.repo_known l_0.l p_1 = some r) :
 Ct Tryz.prog 112 [l_0.val, str p_1] l_0.ok (Ow.emp) (X := Unit) (fun _ => .bool r) (fun _ => True) (fun _ => Mo.tt) (fun _ => Ow.emp) := by
 refine Zo Tryz.func112 Tryz.ntmps112 fun c => ?_
 unfold Sh.repo_known at hS
 refine Zq (Zr ?_)
 refine VL.box (cs := [str p_1]) rfl rfl (by decide) fun b3_1 => ?_
 refine Zy ?_
 refine Zq ?_
 cases hS
theorem slices_Clone_index_Entry_index_Entry_ct (s_0 : Sv IndexEntry) {r : List IndexEntry} (hS : Sh.slices_Clone_index_Entry_index_Entry s_0.l = some r) :
 Ct Tryz.prog 199 [s_0.val] s_0.ok (Ow.emp) (X := Sv IndexEntry) (fun x => x.val) (fun x => r = x.l) (fun x => Mo.tt) (fun x => Sv.own x 149) := by
 refine Zo Tryz.func199 Tryz.ntmps199 fun c => ?_
 unfold Sh.slices_Clone_index_Entry_index_Entry at hS
 refine Zq (Zr ?_)
 refine Zy ?_
 refine Zq (Zq (Zr ?_))
 refine Zm ?_
 refine Zu (q_slnil (s := s_0) Tryz.underlying25 rfl) ?_
 refine Zl ?_
 refine VC.slnil (s := s_0) rfl (fun h4 => ?_) ?_
 ·
  have hS : (some []) = some r := by
    simp [lt, gd, h4] at hS ⊢
    try exact hS
  refine Zq (Zr ?_)
  refine Zy ?_
  refine VC.nilO (⟨none, 0, []⟩ : Sv IndexEntry) 149 ⟨rfl, rfl⟩ ?_
  cases hS
  exact VC.ret (fin1 (.inr rfl) rfl rfl ⟨none, 0, []⟩ rfl rfl (by (try dsimp only); exact InM.out) (by (try dsimp only); exact EntO.out))
 refine Zk ?_
 refine Zq (Zr ?_)
 refine VL.lit0 (α := IndexEntry) Tryz.underlying25 ghas149 (by decide) (fun s5_1 hs5_1 hcs5_1 => ?_)
 refine VL.nilO s5_1 149 ⟨hcs5_1, hs5_1⟩ ?_
 replace hS := lt_to hs5_1 hS
 refine Zm ?_
 obtain ⟨b7, hS⟩ := gd_s hS
 refine VL.app (s := s5_1) (r := s_0) Tryz.underlying25 gapp149 (by decide) rfl Fo.out (ap1 b7) (ap2 b7 (by decide)) (by decide) (fun s7_3 hs7_3 => ?_)
 replace hS := lt_to hs7_3 hS
 refine Zy ?_
 cases hS
 exact VC.ret (fin1 (.inr rfl) rfl rfl s7_3 rfl rfl (by (try dsimp only); exact InM.out) (by (try dsimp only); exact EntO.out))
theorem index_gives_ct (x_0 : IndexEntry) (e_1 : IndexEntry) {r : Bool} (hS : Sh.index_gives x_0 e_1 = some r) :
 Ct Tryz.prog 264 [.agg #[str x_0.path, i64 x_0.stage, i64 x_0.mode, str x_0.data, i64 x_0.time, i64 x_0.size], .agg #[str e_1.path, i64 e_1.stage, i64 e_1.mode, str e_1.data, i64 e_1.time, i64 e_1.size]] Mo.tt (Ow.emp) (X := Unit) (fun _ => .bool r) (fun _ => True) (fun _ => Mo.tt) (fun _ => Ow.emp) := by
 refine Zo Tryz.func264 Tryz.ntmps264 fun c => ?_
 unfold Sh.index_gives at hS
 refine Zq (Zr ?_)
 refine VL.box (cs := [str x_0.path, i64 x_0.stage, i64 x_0.mode, str x_0.data, i64 x_0.time, i64 x_0.size]) rfl rfl (by decide) fun b2_1 => ?_
 refine VL.box (cs := [str e_1.path, i64 e_1.stage, i64 e_1.mode, str e_1.data, i64 e_1.time, i64 e_1.size]) rfl rfl (by decide) fun b3_2 => ?_
 refine Zy ?_
 refine Zq (Zb (Zq (Zr ?_)))
 refine Zu (q_field gfa149_0 rfl) ?_
 refine Zu (q_fe gone9 rfl rfl) ?_
 refine Zu (q_field gfa149_0 rfl) ?_
 refine Zu (q_fe gone9 rfl rfl) ?_
 obtain ⟨y10_3, ey10_3, hS⟩ := bd_s hS
 refine Zu (q_call (path_Clash_ct x_0.path e_1.path ey10_3) rfl (fun _ _ => rfl)) ?_
 refine Zy ?_
 refine VC.keep (ρ' := [(2, ptr b2_1 0), (3, ptr b3_2 0), (5, .bool y10_3)]) [2, 3, 5] rfl ?_
 refine Zcb hS (fun h5 hS => ?_) (fun h5 hS => ?_)
 ·
  refine Zq ?_
  cases hS
 refine Zq (Zr ?_)
 refine Zu (q_field gfa149_0 rfl) ?_
 refine Zu (q_fe gone9 rfl rfl) ?_
 refine Zu (q_field gfa149_0 rfl) ?_
 refine Zu (q_fe gone9 rfl rfl) ?_
 refine Zu (q_sne rfl rfl) ?_
 refine Zy ?_
 refine Zcn hS (fun h11 hS => ?_) (fun h11 hS => ?_)
 ·
  refine Zq (Zr ?_)
  refine Zy ?_
  cases hS
  exact Ze
 refine Zk ?_
 refine Zq (Zq (Zr ?_))
 refine Zu (q_field gfa149_1 rfl) ?_
 refine Zu (q_fe gone3 rfl rfl) ?_
 refine Zl ?_
 refine VC.keep (ρ' := [(2, ptr b2_1 0), (3, ptr b3_2 0), (18, i64 e_1.stage)]) [2, 3, 18] rfl ?_
 refine Zb ?_
 refine VC.cutJ (S := Unit) (fun (_ : Unit) => ()) (fun (_ : Unit) => [(2, ptr b2_1 0), (3, ptr b3_2 0)]) (fun (_ : Unit) => Mo.tt) (fun (_ : Unit) => Ow.star (Blk b3_2 [str e_1.path, i64 e_1.stage, i64 e_1.mode, str e_1.data, i64 e_1.time, i64 e_1.size] 149) (Ow.star (Blk b2_1 [str x_0.path, i64 x_0.stage, i64 x_0.mode, str x_0.data, i64 x_0.time, i64 x_0.size] 149) (Ow.emp))) hS ?_ ?_
 ·
  clear hS
  intro k4 hS
  refine Zb (Zb (Zb (Zq (Zq (Zq (Zr ?_))))))
  refine Zu (q_eql rfl rfl) ?_
  refine Zy ?_
  refine Zc hS (fun h19 hS => ?_) (fun h19 hS => ?_)
  ·
   refine VC.exit_mt () [2, 3] (fun _ _ h => h) hS rfl
  refine Zk ?_
  refine Zq (Zq (Zr ?_))
  refine Zu (q_eql rfl rfl) ?_
  refine Zy ?_
  refine Zc hS (fun h21 hS => ?_) (fun h21 hS => ?_)
  ·
   refine VC.exit_mt () [2, 3] (fun _ _ h => h) hS rfl
  refine Zk ?_
  refine Zq (Zr ?_)
  refine Zu (q_eql rfl rfl) ?_
  refine Zy ?_
  refine Zc hS (fun h23 hS => ?_) (fun h23 hS => ?_)
  ·
   refine VC.exit_mt () [2, 3] (fun _ _ h => h) hS rfl
  refine Zk ?_
  refine Zx ?_
  refine Zq (Zr ?_)
  refine Zy ?_
  cases hS
  exact Ze
 clear hS
 rintro _ hS
 refine Zq (Zq ?_)
 cases hS
theorem index_Put_1_ct (x_0 : IndexEntry) (a_1_b : Nat) (a_1 : IndexEntry) {r : Bool} (hS : Sh.index_Put_1 x_0 a_1 = some r) :
 Ct Tryz.prog 263 [.agg #[str x_0.path, i64 x_0.stage, i64 x_0.mode, str x_0.data, i64 x_0.time, i64 x_0.size], ptr a_1_b 0] (Cells a_1_b 0 [str a_1.path, i64 a_1.stage, i64 a_1.mode, str a_1.data, i64 a_1.time, i64 a_1.size]) (Ow.emp) (X := Unit) (fun _ => .bool r) (fun _ => True) (fun _ => Mo.tt) (fun _ => Ow.emp) := by
 refine Zo Tryz.func263 Tryz.ntmps263 fun c => ?_
 unfold Sh.index_Put_1 at hS
 refine Zq (Zr ?_)
 refine VL.box (cs := [str x_0.path, i64 x_0.stage, i64 x_0.mode, str x_0.data, i64 x_0.time, i64 x_0.size]) rfl rfl (by decide) fun b2_1 => ?_
 refine Zy ?_
 refine Zq (Zr ?_)
 refine Zu (q_fes gagg149 rfl rfl) ?_
 refine Zu (q_fms gagg149 rfl rfl) ?_
 obtain ⟨y6_2, ey6_2, hS⟩ := bd_s hS
 refine Zu (q_call (index_gives_ct x_0 a_1 ey6_2) rfl (fun _ _ => rfl)) ?_
 refine Zy ?_
 cases hS
 exact Ze
theorem slices_IndexFunc_index_Entry_index_Entry_ct (s_0 : Sv IndexEntry) (f_1_0_b : Nat) (f_1_0 : IndexEntry) {r : Int} (hS : Sh.slices_IndexFunc_index_Entry_index_Entry s_0.l f_1_0 = some r) :
 Ct Tryz.prog 262 [s_0.val, .func (.func 263) #[] #[ptr f_1_0_b 0]] (s_0.ok.and (Cells f_1_0_b 0 [str f_1_0.path, i64 f_1_0.stage, i64 f_1_0.mode, str f_1_0.data, i64 f_1_0.time, i64 f_1_0.size])) (Ow.emp) (X := Unit) (fun _ => i64 r) (fun _ => True) (fun _ => Mo.tt) (fun _ => Ow.emp) := by
 refine Zo Tryz.func262 Tryz.ntmps262 fun c => ?_
 unfold Sh.slices_IndexFunc_index_Entry_index_Entry at hS
 refine Zq (Zr ?_)
 refine Zy ?_
 refine Zq (Zq (Zr ?_))
 refine Zm ?_
 refine Zu (q_ln (s := s_0) Tryz.underlying25 rfl) ?_
 refine Zy ?_
 refine Zb ?_
 refine VC.iter (S := Int) (fun (x8_1 : Int) => x8_1) (fun (x8_1 : Int) => [(0, s_0.val), (1, .func (.func 263) #[] #[ptr f_1_0_b 0]), (7, i64 (s_0.l.length : Int)), (8, i64 x8_1)]) (fun (x8_1 : Int) => Mo.tt) (fun (x8_1 : Int) => Ow.emp) 0 [0, 1, 7, 8] hS rfl ?_
 clear hS
 rintro x8_1 m1 y1 hS hK1
 refine Zq (Zr ?_)
 refine Zu (q_lss rfl rfl) ?_
 refine Zl ?_
 refine Zq ?_
 refine Zc hS (fun h9 hS => ?_) (fun h9 hS => ?_)
 ·
  refine Zk ?_
  refine Zq (Zb (Zq (Zr ?_)))
  refine Zy ?_
  refine Zq (Zr ?_)
  refine Zy ?_
  obtain ⟨z14_2, nz14_2, hz14_2, hS⟩ := at_s hS
  refine Zu (q_ixm (s := s_0) Tryz.underlying25 gsz149 rfl rfl nz14_2 (lt_of_get nz14_2 hz14_2)) ?_
  refine Zu (q_els (s := s_0) gagg149 rfl rfl hz14_2) ?_
  obtain ⟨y16_3, ey16_3, hS⟩ := bd_s hS
  refine Zu (q_callVC (vs := [.agg #[str z14_2.path, i64 z14_2.stage, i64 z14_2.mode, str z14_2.data, i64 z14_2.time, i64 z14_2.size]]) (caps := [ptr f_1_0_b 0]) (index_Put_1_ct z14_2 f_1_0_b f_1_0 ey16_3) rfl rfl (fun _ _ => rfl)) ?_
  refine Zl ?_
  refine VC.keep (ρ' := [(0, s_0.val), (1, .func (.func 263) #[] #[ptr f_1_0_b 0]), (7, i64 (s_0.l.length : Int)), (8, i64 x8_1), (5, i64 x8_1), (16, .bool y16_3)]) [0, 1, 7, 8, 5, 16] rfl ?_
  refine Zcb hS (fun h16 hS => ?_) (fun h16 hS => ?_)
  ·
   refine Zq (Zr ?_)
   refine Zy ?_
   replace hS := up2 hS hK1
   cases hS
   exact Ze
  refine Zk ?_
  refine Zr ?_
  obtain ⟨b18, hS⟩ := gd_s hS
  refine Zu (q_add rfl rfl b18) ?_
  refine Zm ?_
  refine VL.rnd (x8_1 + 1) [0, 1, 7, 8] (fun _ _ h => h) (go2 hS hK1) rfl
 replace hS := up2 hS hK1
 refine Zx ?_
 refine Zq (Zr ?_)
 refine Zy ?_
 cases hS
 exact Ze
theorem slices_DeleteFunc_index_Entry_index_Entry_ct (s_0 : Sv IndexEntry) (del_1_0_b : Nat) (del_1_0 : IndexEntry) {r : List IndexEntry} (hS : Sh.slices_DeleteFunc_index_Entry_index_Entry s_0.l del_1_0 = some r) :
 Ct Tryz.prog 198 [s_0.val, .func (.func 263) #[] #[ptr del_1_0_b 0]] Mo.tt (Ow.star (Sv.own s_0 149) (Blk del_1_0_b [str del_1_0.path, i64 del_1_0.stage, i64 del_1_0.mode, str del_1_0.data, i64 del_1_0.time, i64 del_1_0.size] 149)) (X := Sv IndexEntry) (fun x => x.val) (fun x => r = x.l) (fun x => Mo.tt) (fun x => Ow.star (Sv.own x 149) (Blk del_1_0_b [str del_1_0.path, i64 del_1_0.stage, i64 del_1_0.mode, str del_1_0.data, i64 del_1_0.time, i64 del_1_0.size] 149)) := by
 refine Zo Tryz.func198 Tryz.ntmps198 fun c => ?_
 unfold Sh.slices_DeleteFunc_index_Entry_index_Entry at hS
 refine Zq (Zr ?_)
 refine Zy ?_
 refine Zq (Zr ?_)
 refine Zy ?_
 obtain ⟨y10_1, ey10_1, hS⟩ := bd_s hS
 refine Zu (q_callR (slices_IndexFunc_index_Entry_index_Entry_ct s_0 del_1_0_b del_1_0 ey10_1) rfl (fun _ _ => rfl)) ?_
 refine Zy ?_
 refine Zq (Zq (Zr ?_))
 refine Zm ?_
 refine Zu (q_eql rfl rfl) ?_
 refine Zl ?_
 refine Zc hS (fun h12 hS => ?_) (fun h12 hS => ?_)
 ·
  refine Zq (Zr ?_)
  refine Zy ?_
  cases hS
  exact VC.ret (fin1 (.inr rfl) rfl rfl s_0 rfl rfl (by (try dsimp only); exact InM.out) (by (try dsimp only); exact EntO.out))
 refine Zk ?_
 refine Zq (Zq (Zr ?_))
 refine Zm ?_
 obtain ⟨b15, hS⟩ := gd_s hS
 refine Zu (q_add rfl rfl b15) ?_
 refine Zy ?_
 refine VC.keep (ρ' := [(0, s_0.val), (1, .func (.func 263) #[] #[ptr del_1_0_b 0]), (5, i64 y10_1), (6, i64 (y10_1 + 1))]) [0, 1, 5, 6] rfl ?_
 refine Zb ?_
 refine VC.iter (S := Sv IndexEntry × Int × Int) (fun sg => (sg.1.l, sg.2.1, sg.2.2)) (fun sg => [(0, sg.1.val), (1, .func (.func 263) #[] #[ptr del_1_0_b 0]), (5, i64 sg.2.1), (6, i64 sg.2.2)]) (fun sg => Mo.tt) (fun sg => Ow.star (Blk del_1_0_b [str del_1_0.path, i64 del_1_0.stage, i64 del_1_0.mode, str del_1_0.data, i64 del_1_0.time, i64 del_1_0.size] 149) (Ow.star (Sv.own sg.1 149) (Ow.emp))) (s_0, y10_1, (y10_1 + 1)) [0, 1, 5, 6] hS rfl ?_
 clear hS
 rintro ⟨s0_2, i5_3, j6_4⟩ m1 y1 hS hK1
 refine Zq (Zq (Zr ?_))
 refine Zy ?_
 refine Zu (q_ln (s := s0_2) Tryz.underlying25 rfl) ?_
 refine Zu (q_lss rfl rfl) ?_
 refine Zl ?_
 refine Zc hS (fun h19 hS => ?_) (fun h19 hS => ?_)
 ·
  refine Zk ?_
  refine VC.cutJ (S := Sv IndexEntry × Int) (fun sg => (sg.1.l, sg.2)) (fun sg => [(0, sg.1.val), (1, .func (.func 263) #[] #[ptr del_1_0_b 0]), (5, i64 sg.2), (6, i64 j6_4)]) (fun sg => Mo.tt) (fun sg => Ow.star (Blk del_1_0_b [str del_1_0.path, i64 del_1_0.stage, i64 del_1_0.mode, str del_1_0.data, i64 del_1_0.time, i64 del_1_0.size] 149) (Ow.star (Sv.own sg.1 149) (Ow.emp))) hS ?_ ?_
  ·
   clear hS
   intro k7 hS
   refine Zb (Zq (Zr ?_))
   refine Zy ?_
   obtain ⟨z24_8, nz24_8, hz24_8, hS⟩ := at_s hS
   refine Zu (q_ixo (s := s0_2) Tryz.underlying25 gsz149 rfl rfl nz24_8 (lt_of_get nz24_8 hz24_8)) ?_
   refine Zu (q_elso (s := s0_2) gagg149 rfl rfl hz24_8) ?_
   refine VL.alloc (cs := [str [], i64 0, i64 0, str [], i64 0, i64 0]) (by kernel_rfl) (by decide) fun b7_9 => ?_
   refine Zv (vc := [str z24_8.path, i64 z24_8.stage, i64 z24_8.mode, str z24_8.data, i64 z24_8.time, i64 z24_8.size]) (cs' := [str z24_8.path, i64 z24_8.stage, i64 z24_8.mode, str z24_8.data, i64 z24_8.time, i64 z24_8.size]) rfl gsz149 ?_
   refine Zl ?_
   refine VC.keep (ρ' := [(0, s0_2.val), (1, .func (.func 263) #[] #[ptr del_1_0_b 0]), (5, i64 i5_3), (6, i64 j6_4), (7, ptr b7_9 0)]) [0, 1, 5, 6, 7] rfl ?_
   refine Zq (Zr ?_)
   refine Zm ?_
   refine Zu (q_fes gagg149 rfl rfl) ?_
   obtain ⟨y28_10, ey28_10, hS⟩ := bd_s hS
   refine Zu (q_callVC (vs := [.agg #[str z24_8.path, i64 z24_8.stage, i64 z24_8.mode, str z24_8.data, i64 z24_8.time, i64 z24_8.size]]) (caps := [ptr del_1_0_b 0]) (index_Put_1_ct z24_8 del_1_0_b del_1_0 ey28_10) rfl rfl (fun _ _ => rfl)) ?_
   refine Zu (q_not rfl) ?_
   refine Zl ?_
   refine Zcb hS (fun h29 hS => ?_) (fun h29 hS => ?_)
   ·
    refine Zq (Zr ?_)
    refine Zy ?_
    refine Zu (q_fes gagg149 rfl rfl) ?_
    obtain ⟨z33_11, nz33_11, hz33_11, hS⟩ := at_s hS
    refine Zu (q_ixo (s := s0_2) Tryz.underlying25 gsz149 rfl rfl nz33_11 (lt_of_get nz33_11 hz33_11)) ?_
    refine VL.storeE (s := s0_2) (T := 149) (j := 0) (vc := [str z24_8.path, i64 z24_8.stage, i64 z24_8.mode, str z24_8.data, i64 z24_8.time, i64 z24_8.size]) (⟨z24_8.path, z24_8.stage, z24_8.mode, z24_8.data, z24_8.time, z24_8.size⟩ : IndexEntry) (by decide) rfl rfl hz33_11 rfl gsz149 rfl rfl (Nat.le_of_ble_eq_true rfl) rfl (fun w12 hw12 haw12 hcw12 hvw12 hbw12 how12 => ?_)
    rw [← hvw12]
    replace hS := lt_to hw12 hS
    refine Zl ?_
    refine VC.keep (ρ' := [(0, w12.val), (1, .func (.func 263) #[] #[ptr del_1_0_b 0]), (5, i64 i5_3), (6, i64 j6_4)]) [0, 1, 5, 6] rfl ?_
    refine Zr ?_
    refine Zm ?_
    obtain ⟨b35, hS⟩ := gd_s hS
    refine Zu (q_add rfl rfl b35) ?_
    refine Za ?_
    refine VL.mt (w12, (i5_3 + 1)) [0, 1, 5, 6] (fun _ _ h => h) hS rfl
   refine VC.skip_mt (s0_2, i5_3) [0, 1, 5, 6] (fun _ _ h => h) hS rfl
  clear hS
  rintro ⟨s0_5, i5_6⟩ hS
  refine Zr ?_
  refine Zm ?_
  obtain ⟨b21, hS⟩ := gd_s hS
  refine Zu (q_add rfl rfl b21) ?_
  refine Za ?_
  refine VL.rnd (s0_5, i5_6, (j6_4 + 1)) [0, 1, 5, 6] (fun _ _ h => h) (go2 hS hK1) rfl
 replace hS := up2 hS hK1
 refine Zx ?_
 refine Zq (Zr ?_)
 refine Zy ?_
 obtain ⟨b38, hS⟩ := gd_s hS
 refine VL.fits (s := s0_2) (e := 149) Fo.out fun f38_14 => ?_
 refine Zu (q_subv (s := s0_2) Tryz.underlying25 gsz149 rfl rfl b38.1 b38.2 f38_14) ?_
 refine VL.clrN (s := s0_2) (i := i5_3.toNat) (.agg #[str [], i64 0, i64 0, str [], i64 0, i64 0]) Tryz.underlying25 gzv149 rfl rfl rfl (by have := b38; dsimp only at this ⊢; omega) Fo.out fun ss3_15 hss3_15 vss3_15 => ?_
 replace hS := lt_to hss3_15 hS
 refine Zl ?_
 refine VC.keep (ρ' := [(0, s0_2.val), (5, i64 i5_3)]) [0, 5] rfl ?_
 refine Zq (Zr ?_)
 refine Zy ?_
 refine Zu (q_cutO (s := s0_2) (q := ss3_15) Tryz.underlying25 gsz149 rfl rfl b38.1 b38.2 f38_14 vss3_15) ?_
 refine Zy ?_
 cases hS
 exact VC.ret (fin1 (.inr rfl) rfl rfl ss3_15 rfl rfl (by (try dsimp only); exact InM.out) (by (try dsimp only); exact EntO.out))
theorem cmp_isNaN_int_ct (x_0 : Int) {r : Bool} (hS : Sh.cmp_isNaN_int x_0 = some r) :
 Ct Tryz.prog 332 [i64 x_0] Mo.tt (Ow.emp) (X := Unit) (fun _ => .bool r) (fun _ => True) (fun _ => Mo.tt) (fun _ => Ow.emp) := by
 refine Zo Tryz.func332 Tryz.ntmps332 fun c => ?_
 unfold Sh.cmp_isNaN_int at hS
 refine Zq (Zr ?_)
 refine Zy ?_
 refine Zq (Zr ?_)
 refine Zy ?_
 refine Zu (q_neq rfl rfl) ?_
 refine Zy ?_
 cases hS
 exact Ze
theorem cmp_Compare_int_ct (x_0 : Int) (y_1 : Int) {r : Int} (hS : Sh.cmp_Compare_int x_0 y_1 = some r) :
 Ct Tryz.prog 304 [i64 x_0, i64 y_1] Mo.tt (Ow.emp) (X := Unit) (fun _ => i64 r) (fun _ => True) (fun _ => Mo.tt) (fun _ => Ow.emp) := by
 refine Zo Tryz.func304 Tryz.ntmps304 fun c => ?_
 unfold Sh.cmp_Compare_int at hS
 refine Zq (Zr ?_)
 refine Zy ?_
 refine Zq (Zr ?_)
 refine Zm ?_
 obtain ⟨y8_1, ey8_1, hS⟩ := bd_s hS
 refine Zu (q_call (cmp_isNaN_int_ct x_0 ey8_1) rfl (fun _ _ => rfl)) ?_
 refine Zy ?_
 refine Zq (Zr ?_)
 refine Zm ?_
 obtain ⟨y10_2, ey10_2, hS⟩ := bd_s hS
 refine Zu (q_call (cmp_isNaN_int_ct y_1 ey10_2) rfl (fun _ _ => rfl)) ?_
 refine Zy ?_
 refine Zq (Zq (Zr ?_))
 refine Zy ?_
 refine Zcb hS (fun h11 hS => ?_) (fun h11 hS => ?_)
 ·
  refine Zq (Zq (Zr ?_))
  refine Zy ?_
  refine VC.keep (ρ' := [(12, .bool y10_2)]) [12] rfl ?_
  refine Zcb hS (fun h12 hS => ?_) (fun h12 hS => ?_)
  ·
   refine Zq (Zr ?_)
   refine Zy ?_
   cases hS
   exact Ze
  refine Zk ?_
  refine Zq (Zr ?_)
  refine Zy ?_
  cases hS
  exact Ze
 refine Zk ?_
 refine Zq (Zq (Zr ?_))
 refine Zy ?_
 refine VC.keep (ρ' := [(0, i64 x_0), (1, i64 y_1), (13, .bool y10_2)]) [0, 1, 13] rfl ?_
 refine Zcb hS (fun h13 hS => ?_) (fun h13 hS => ?_)
 ·
  refine Zq (Zr ?_)
  refine Zy ?_
  cases hS
  exact Ze
 refine Zk ?_
 refine Zq (Zq (Zr ?_))
 refine Zy ?_
 refine Zu (q_lss rfl rfl) ?_
 refine Zl ?_
 refine Zc hS (fun h16 hS => ?_) (fun h16 hS => ?_)
 ·
  refine Zq (Zr ?_)
  refine Zy ?_
  cases hS
  exact Ze
 refine Zk ?_
 refine Zq (Zq (Zr ?_))
 refine Zy ?_
 refine Zu (q_gtr rfl rfl) ?_
 refine Zl ?_
 refine Zc hS (fun h19 hS => ?_) (fun h19 hS => ?_)
 ·
  refine Zq (Zr ?_)
  refine Zy ?_
  cases hS
  exact Ze
 refine Zk ?_
 refine Zq (Zr ?_)
 refine Zy ?_
 cases hS
 exact Ze
theorem cmp_Or_int_ct (vals_0 : Sv Int) {r : Int} (hS : Sh.cmp_Or_int vals_0.l = some r) :
 Ct Tryz.prog 303 [vals_0.val] vals_0.ok (Ow.emp) (X := Unit) (fun _ => i64 r) (fun _ => True) (fun _ => Mo.tt) (fun _ => Ow.emp) := by
 refine Zo Tryz.func303 Tryz.ntmps303 fun c => ?_
 unfold Sh.cmp_Or_int at hS
 refine Zq (Zr ?_)
 refine Zy ?_
 refine Zq (Zr ?_)
 refine Zy ?_
 refine Zq (Zq (Zr ?_))
 refine Zm ?_
 refine Zu (q_ln (s := vals_0) Tryz.underlying56 rfl) ?_
 refine Zy ?_
 refine Zb ?_
 refine VC.iter (S := Int) (fun (x8_1 : Int) => x8_1) (fun (x8_1 : Int) => [(3, i64 0), (6, vals_0.val), (7, i64 (vals_0.l.length : Int)), (8, i64 x8_1)]) (fun (x8_1 : Int) => Mo.tt) (fun (x8_1 : Int) => Ow.emp) 0 [3, 6, 7, 8] hS rfl ?_
 clear hS
 rintro x8_1 m1 y1 hS hK1
 refine Zq (Zr ?_)
 refine Zu (q_lss rfl rfl) ?_
 refine Zl ?_
 refine Zq ?_
 refine Zc hS (fun h9 hS => ?_) (fun h9 hS => ?_)
 ·
  refine Zk ?_
  refine Zq (Zb (Zq (Zr ?_)))
  obtain ⟨z10_2, nz10_2, hz10_2, hS⟩ := at_s hS
  refine Zu (q_ixm (s := vals_0) Tryz.underlying56 gsz3 rfl rfl nz10_2 (lt_of_get nz10_2 hz10_2)) ?_
  refine Zu (q_el (s := vals_0) gone3 rfl hz10_2 rfl) ?_
  refine Zy ?_
  refine Zq (Zr ?_)
  refine Zy ?_
  refine Zu (q_neq rfl rfl) ?_
  refine Zl ?_
  refine Zcn hS (fun h14 hS => ?_) (fun h14 hS => ?_)
  ·
   refine Zq (Zr ?_)
   refine Zy ?_
   refine VC.keep (ρ' := [(2, i64 z10_2)]) [2] rfl ?_
   replace hS := up2 hS hK1
   cases hS
   exact Ze
  refine Zk ?_
  refine VC.keep (ρ' := [(3, i64 0), (6, vals_0.val), (7, i64 (vals_0.l.length : Int)), (8, i64 x8_1)]) [3, 6, 7, 8] rfl ?_
  refine Zr ?_
  obtain ⟨b16, hS⟩ := gd_s hS
  refine Zu (q_add rfl rfl b16) ?_
  refine Zm ?_
  refine VL.rnd (x8_1 + 1) [3, 6, 7, 8] (fun _ _ h => h) (go2 hS hK1) rfl
 replace hS := up2 hS hK1
 refine Zx ?_
 refine Zq (Zr ?_)
 refine Zy ?_
 cases hS
 exact Ze
theorem index_compare_ct (a_0 : IndexEntry) (b_1 : IndexEntry) {r : Int} (hS : Sh.index_compare a_0 b_1 = some r) :
 Ct Tryz.prog 265 [.agg #[str a_0.path, i64 a_0.stage, i64 a_0.mode, str a_0.data, i64 a_0.time, i64 a_0.size], .agg #[str b_1.path, i64 b_1.stage, i64 b_1.mode, str b_1.data, i64 b_1.time, i64 b_1.size]] Mo.tt (Ow.emp) (X := Unit) (fun _ => i64 r) (fun _ => True) (fun _ => Mo.tt) (fun _ => Ow.emp) := by
 refine Zo Tryz.func265 Tryz.ntmps265 fun c => ?_
 unfold Sh.index_compare at hS
 refine Zq (Zr ?_)
 refine VL.box (cs := [str a_0.path, i64 a_0.stage, i64 a_0.mode, str a_0.data, i64 a_0.time, i64 a_0.size]) rfl rfl (by decide) fun b2_1 => ?_
 refine VL.box (cs := [str b_1.path, i64 b_1.stage, i64 b_1.mode, str b_1.data, i64 b_1.time, i64 b_1.size]) rfl rfl (by decide) fun b3_2 => ?_
 refine Zy ?_
 refine Zq ?_
 refine VC.draw [(0, true), (1, true), (2, true), (3, true), (4, true), (5, true), (6, true), (7, true), (8, true), (9, true), (10, false), (11, true), (12, true)] mixed (by kernel_rfl) (by kernel_rfl) (by kernel_rfl) ?_
 refine Zw rfl (q_field gfa149_0 rfl) ?_
 refine Zw rfl (q_fe gone9 rfl rfl) ?_
 refine Zw rfl (q_field gfa149_0 rfl) ?_
 refine Zw rfl (q_fe gone9 rfl rfl) ?_
 obtain ⟨y9_3, ey9_3, hS⟩ := bd_s hS
 refine Zw rfl (q_call (path_Compare_ct a_0.path b_1.path ey9_3) rfl (fun _ _ => rfl)) ?_
 refine Zw rfl (q_field gfa149_1 rfl) ?_
 refine Zw rfl (q_fe gone3 rfl rfl) ?_
 refine Zw rfl (q_field gfa149_1 rfl) ?_
 refine Zw rfl (q_fe gone3 rfl rfl) ?_
 obtain ⟨y14_4, ey14_4, hS⟩ := bd_s hS
 refine Zw rfl (q_call (cmp_Compare_int_ct a_0.stage b_1.stage ey14_4) rfl (fun _ _ => rfl)) ?_
 refine VD.one rfl ?_
 refine VL.lit (α := Int) (xs := [.tmp 9, .tmp 14]) (vs := [i64 y9_3, i64 y14_4]) [y9_3, y14_4] Tryz.underlying56 glit3 (by decide) rfl rfl rfl rfl (by decide) (fun _ _ _ _ => trivial) (by decide) (fun s15_5 hs15_5 => ?_) (by decide)
 replace hS := lt_to hs15_5 hS
 refine VL.back (D' := []) (by kernel_rfl) (Pend.nil) ?_
 obtain ⟨y16_7, ey16_7, hS⟩ := bd_s hS
 refine Zw rfl (q_call (cmp_Or_int_ct s15_5 ey16_7) rfl (fun _ _ => rfl)) ?_
 refine Zw rfl (q_assign rfl) ?_
 refine VD.to (fun _ _ h => h) ?_
 refine VC.keep (ρ' := [(4, i64 y16_7)]) [4] rfl ?_
 cases hS
 exact Ze
theorem insert149_ct (s v : Sv IndexEntry) (i : Int) (hi : 0 ≤ i ∧ i ≤ (s.l.length : Int)) (hv : v.l ≠ []) (hb : s.l.length + v.l.length ≤ 4294967296) : Ct Tryz.prog 266 [s.val, i64 i, v.val] Mo.tt (Ow.star (s.own 149) (v.own 149)) (X := Sv IndexEntry) (fun q => q.val) (fun q => q.l = s.l.take i.toNat ++ v.l ++ s.l.drop i.toNat) (fun _ => Mo.tt) (fun q => q.own 149) := by
 refine Zo Tryz.func266 Tryz.ntmps266 fun c => ?_
 have hvp : 0 < v.l.length := List.length_pos_iff.2 hv
 have hK : Dat.sz IndexEntry = 6 := rfl
 refine Zq (Zr ?_)
 refine Zy ?_
 refine Zq (Zr ?_)
 refine Zy ?_
 refine VL.fits (s := s) (e := 149) Fo.out fun hf => ?_
 refine Zu (q_subv (s := s) Tryz.underlying25 gsz149 rfl rfl hi.1 hi.2 hf) ?_
 refine Zl ?_
 refine Zq (Zr ?_)
 refine Zm ?_
 refine Zu (q_ln (s := v) Tryz.underlying25 rfl) ?_
 refine Zy ?_
 refine Zq (Zq (Zr ?_))
 refine Zm ?_
 refine Zu (q_eql rfl rfl) ?_
 refine Zl ?_
 refine VC.cond_dec rfl (fun h16 => absurd h16 (by omega)) (fun h16 => ?_)
 refine Zk ?_
 refine Zq (Zr ?_)
 refine Zm ?_
 refine Zu (q_ln (s := s) Tryz.underlying25 rfl) ?_
 refine Zy ?_
 refine Zq (Zq (Zr ?_))
 refine Zy ?_
 refine Zu (q_eql rfl rfl) ?_
 refine Zl ?_
 refine VC.cond_dec rfl (fun h22 => ?_) (fun h22 => ?_)
 ·
  refine Zq (Zr ?_)
  refine Zy ?_
  refine VL.shut v 149 (fun _ _ _ _ => trivial) ?_
  refine VL.app2 (s := s) (r := v) Tryz.underlying25 Tryz.underlying25 gapp149 (by decide) rfl Fo.out (ap1 hb) (ap2 hb (by decide)) (by decide) (fun q hq => ?_)
  refine Zy ?_
  have e1 : i.toNat = s.l.length := by omega
  exact VC.ret (fin1 (.inr rfl) rfl rfl q rfl (by rw [hq, e1, List.take_length, List.drop_length, List.append_nil]) (fun _ _ => trivial) EntO.out)
 have hin : i < (s.l.length : Int) := by omega
 have hne : s.l ≠ [] := fun h => by rw [h] at hin; simp at hin; omega
 have hkq : (s.l.length : Int) + (v.l.length : Int) - i = ((s.l.length + v.l.length - i.toNat : Nat) : Int) := by omega
 have hLn : (s.l.take i.toNat ++ v.l ++ s.l.drop i.toNat).length = s.l.length + v.l.length := by simp only [List.length_append, List.length_take, List.length_drop]; omega
 have hfl : (s.l.take i.toNat ++ v.l ++ s.l.drop i.toNat).flatMap Dat.enc = (s.l.take i.toNat).flatMap Dat.enc ++ v.l.flatMap Dat.enc ++ (s.l.drop i.toNat).flatMap Dat.enc := by rw [List.flatMap_append, List.flatMap_append]
 have lA : ((s.l.take i.toNat).flatMap Dat.enc).length = i.toNat * 6 := by rw [enc_len, List.length_take, hK, Nat.min_eq_left (by omega)]
 have lV : (v.l.flatMap Dat.enc).length = v.l.length * 6 := by rw [enc_len, hK]
 have lS : ((s.l.drop i.toNat).flatMap Dat.enc).length = (s.l.length - i.toNat) * 6 := by rw [enc_len, List.length_drop, hK]
 refine Zk ?_
 refine Zq (Zq (Zr ?_))
 refine Zy ?_
 refine Zu (q_add rfl rfl ⟨by omega, by omega⟩) ?_
 refine Zm ?_
 refine Zu (q_capV (a0 := s.a) (L := s.l.length) (C := s.c) Tryz.underlying25 rfl) ?_
 refine Zu (q_gtr rfl rfl) ?_
 refine Zl ?_
 refine VC.cond_dec rfl (fun h31 => ?_) (fun h31 => ?_)
 ·
  refine VC.shut s 149 (fun _ _ _ _ => trivial) ?_
  refine VC.shut v 149 (fun _ _ _ _ => trivial) ?_
  refine Zq (Zr ?_)
  refine VL.factM (φ := s.a = some ⟨s.b, s.o, none⟩) (fun h m => (InM.out (X := s.ok) h m).2.2.1 hne) fun hsa => ?_
  refine VL.factM (φ := v.a = some ⟨v.b, v.o, none⟩) (fun h m => (InM.out (X := v.ok) h m).2.2.1 hv) fun hva => ?_
  refine Zy ?_
  refine Zu (q_toV (a0 := s.a) (L := s.l.length) (C := s.c) (K := 6) Tryz.underlying25 gsz149 rfl rfl hi.1 (by omega)) ?_
  refine Zy ?_
  refine Zu (q_add rfl rfl ⟨by omega, by omega⟩) ?_
  refine Zm ?_
  refine Zu (q_sub rfl rfl ⟨by omega, by omega⟩) ?_
  refine VL.setv 39 rfl (congrArg (Value.int .i64) hkq) ?_
  refine VL.appZg (s := s) (L := i.toNat) (kq := s.l.length + v.l.length - i.toNat) Tryz.underlying25 Tryz.underlying3 gapp149 (by decide) rfl hne (by omega) (by omega) (by omega) (by omega) (by decide) (by decide) fun g cs cp hcl hcp hcm hct => ?_
  rw [hK] at hcl hct
  rw [show i.toNat + (s.l.length + v.l.length - i.toNat) = s.l.length + v.l.length by omega] at hcp ⊢
  have hfit : ((s.l.take i.toNat).flatMap Dat.enc).length + (v.l.flatMap Dat.enc).length + ((s.l.drop i.toNat).flatMap Dat.enc).length ≤ cs.length := by
    rw [lA, lV, lS, hcl, ← Nat.add_mul, ← Nat.add_mul]; exact Nat.mul_le_mul_right _ (by omega)
  have hic := ins_cells1 (V := v.l.flatMap Dat.enc) (S := (s.l.drop i.toNat).flatMap Dat.enc) (by rw [lA]; exact hct) hfit
  rw [← hfl, lA, lV, lS] at hic
  refine Zy ?_
  refine Zq (Zr ?_)
  refine Zy ?_
  refine Zu (q_fromV (b := g) (o := 0) (L := s.l.length + v.l.length) (C := cp) (K := 6) Tryz.underlying25 gsz149 rfl rfl hi.1 (by omega) hcp (by omega) rfl) ?_
  refine Zm ?_
  refine VL.setv 44 rfl (show v.val = .slice (some ⟨v.b, v.o + 0 * Dat.sz IndexEntry, none⟩) v.l.length v.c by unfold Sv.val; rw [hva, Nat.zero_mul]; rfl) ?_
  refine VL.copyB (src := v.l.flatMap Dat.enc) Tryz.underlying25 gsz149 UpdB.out rfl (by rw [lV]; congr 1; exact (Nat.min_eq_left (by omega)).symm) (ok_src0 (r := v) (by decide) hv) (enc_one1 v.l) (by rw [lV, Nat.zero_add, hcl, ← Nat.add_mul]; exact Nat.mul_le_mul_right _ (by omega)) (by decide) ?_
  rw [Nat.zero_add, lV]
  refine Zl ?_
  refine Zq ?_
  refine VC.draw [(0, true), (1, true), (2, true), (3, true), (4, true), (5, true), (6, true), (7, true), (8, false)] mixed (by kernel_rfl) (by kernel_rfl) (by kernel_rfl) ?_
  refine Zw rfl (q_move rfl) ?_
  refine Zw rfl (q_move rfl) ?_
  refine Zw rfl (q_move rfl) ?_
  refine Zw rfl (q_add rfl rfl ⟨by omega, by omega⟩) ?_
  refine Zw rfl (q_fromV (b := g) (o := 0) (L := s.l.length + v.l.length) (C := cp) (K := 6) Tryz.underlying25 gsz149 rfl rfl (by omega) (by omega) hcp (by omega) rfl) ?_
  refine Zw rfl (q_move rfl) ?_
  refine Zw rfl (q_move rfl) ?_
  refine Zw rfl (q_fromV (b := s.b) (o := s.o) (L := s.l.length) (C := s.c) (K := 6) Tryz.underlying25 gsz149 (show some s.val = _ by unfold Sv.val; rw [hsa]) rfl hi.1 (by omega) hf (by omega) rfl) ?_
  refine VD.one rfl ?_
  rw [show (i + (v.l.length : Int)).toNat = i.toNat + v.l.length by omega]
  refine VL.copyB (src := (s.l.drop i.toNat).flatMap Dat.enc) Tryz.underlying25 gsz149 UpdB.out rfl (by rw [lS]; congr 1; exact (Nat.min_eq_left (by omega)).symm) (ok_srcK (r := s) (by decide) hne i.toNat) (enc_one1 _) (by rw [lS, Nat.zero_add, hic.1, hcl, ← Nat.add_mul]; exact Nat.mul_le_mul_right _ (by omega)) (by decide) ?_
  rw [Nat.zero_add, lS, Nat.add_mul]
  refine VL.back (D' := []) (by kernel_rfl) Pend.nil ?_
  refine VD.to (fun _ _ h => h) ?_
  refine Zq (Zr ?_)
  refine Zy ?_
  have ho := fun F => own_blk (F := F) (e := 149) (b := g) (l' := s.l.take i.toNat ++ v.l ++ s.l.drop i.toNat) (hic.2.1.trans hcl) (by rw [enc_len] at hic; exact hic.2.2) hLn hcp hcm
  exact VC.ret (fin1 (.inr rfl) rfl rfl ⟨some ⟨g, 0, none⟩, cp, _⟩ (ho Ow.emp).1 rfl (fun _ _ => trivial) (ho _).2)
 refine Zk ?_
 refine Zq (Zr ?_)
 refine VL.open (s := s) (e := 149) Fo.out (by omega) fun b cs hsa hcl hct _ hcm => ?_
 rw [hK] at hcl hct
 have hctA : cs.take ((s.l.take i.toNat).flatMap Dat.enc).length = (s.l.take i.toNat).flatMap Dat.enc := by
   rw [lA]
   have : cs.take (i.toNat * 6) = (cs.take (s.l.length * 6)).take (i.toNat * 6) := by rw [List.take_take, Nat.min_eq_left (Nat.mul_le_mul_right _ (by omega))]
   rw [this, hct]
   exact flatMap_take s.l i.toNat
 have hfit : ((s.l.take i.toNat).flatMap Dat.enc).length + (v.l.flatMap Dat.enc).length + ((s.l.drop i.toNat).flatMap Dat.enc).length ≤ cs.length := by
   rw [lA, lV, lS, hcl, ← Nat.add_mul, ← Nat.add_mul]; exact Nat.mul_le_mul_right _ (by omega)
 have hic := ins_cells2 (V := v.l.flatMap Dat.enc) (S := (s.l.drop i.toNat).flatMap Dat.enc) hctA hfit
 rw [← hfl, lA, lV, lS] at hic
 refine Zy ?_
 refine Zu (q_add rfl rfl ⟨by omega, by omega⟩) ?_
 refine Zu (q_toV (a0 := s.a) (L := s.l.length) (C := s.c) (K := 6) Tryz.underlying25 gsz149 rfl rfl (by omega) (by omega)) ?_
 rw [show ((s.l.length : Int) + (v.l.length : Int)).toNat = s.l.length + v.l.length by omega, hsa]
 refine Zy ?_
 refine Zq (Zq (Zr ?_))
 refine Zy ?_
 refine Zu (q_add rfl rfl ⟨by omega, by omega⟩) ?_
 refine Zu (q_fromV (b := b) (o := 0) (L := s.l.length + v.l.length) (C := s.c) (K := 6) Tryz.underlying25 gsz149 rfl rfl (by omega) (by omega) (by omega) (by omega) rfl) ?_
 refine Zu (q_overlaps (tS := 25) (tR := 4) (s := v) (b := b) Tryz.func305 rfl rfl (by kernel_rfl) (by kernel_rfl) Tryz.underlying25 gsz149 rfl UpdB.out (fun h => by rw [h] at hcl; simp at hcl; omega) hv) ?_
 refine Zu (q_not rfl) ?_
 refine Zl ?_
 refine VC.cond_t rfl ?_
 refine VC.shut v 149 (fun _ _ _ _ => trivial) ?_
 refine Zq ?_
 refine VC.draw [(0, true), (1, true), (2, true), (3, true), (4, true), (5, true), (6, true), (7, true), (8, false)] mixed (by kernel_rfl) (by kernel_rfl) (by kernel_rfl) ?_
 refine Zw rfl (q_move rfl) ?_
 refine Zw rfl (q_move rfl) ?_
 refine Zw rfl (q_move rfl) ?_
 refine Zw rfl (q_add rfl rfl ⟨by omega, by omega⟩) ?_
 refine Zw rfl (q_fromV (b := b) (o := 0) (L := s.l.length + v.l.length) (C := s.c) (K := 6) Tryz.underlying25 gsz149 rfl rfl (by omega) (by omega) (by omega) (by omega) rfl) ?_
 refine Zw rfl (q_move rfl) ?_
 refine Zw rfl (q_move rfl) ?_
 refine Zw rfl (q_fromV (b := b) (o := 0) (L := s.l.length + v.l.length) (C := s.c) (K := 6) Tryz.underlying25 gsz149 rfl rfl hi.1 (by omega) (by omega) (by omega) rfl) ?_
 refine VD.one rfl ?_
 rw [show (i + (v.l.length : Int)).toNat = i.toNat + v.l.length by omega, Nat.zero_add, Nat.zero_add]
 refine VL.copyB (src := (s.l.drop i.toNat).flatMap Dat.enc) Tryz.underlying25 gsz149 UpdB.out rfl (by rw [lS]; congr 1; simp only [Nat.min_def]; split <;> omega) (blk_src (n := s.l.length) hct rfl) (enc_one1 _) (by rw [lS, hcl, ← Nat.add_mul]; exact Nat.mul_le_mul_right _ (by omega)) (by decide) ?_
 rw [lS, Nat.add_mul]
 refine VL.back (D' := []) (by kernel_rfl) Pend.nil ?_
 refine VD.to (fun _ _ h => h) ?_
 refine Zq (Zr ?_)
 refine Zy ?_
 refine Zu (q_fromV (b := b) (o := 0) (L := s.l.length + v.l.length) (C := s.c) (K := 6) Tryz.underlying25 gsz149 rfl rfl hi.1 (by omega) (by omega) (by omega) rfl) ?_
 refine Zm ?_
 refine VL.factM (φ := v.a = some ⟨v.b, v.o, none⟩) (fun h m => (InM.out (X := v.ok) h m).2.2.1 hv) fun hva => ?_
 refine VL.setv 81 rfl (show v.val = .slice (some ⟨v.b, v.o + 0 * Dat.sz IndexEntry, none⟩) v.l.length v.c by unfold Sv.val; rw [hva, Nat.zero_mul]; rfl) ?_
 rw [Nat.zero_add]
 refine VL.copyB (src := v.l.flatMap Dat.enc) Tryz.underlying25 gsz149 UpdB.out rfl (by rw [lV]; congr 1; exact (Nat.min_eq_left (by omega)).symm) (ok_src0 (r := v) (by decide) hv) (enc_one1 v.l) (by rw [lV, hic.1, hcl, ← Nat.add_mul]; exact Nat.mul_le_mul_right _ (by omega)) (by decide) ?_
 rw [lV]
 refine Zl ?_
 refine Zq (Zr ?_)
 refine Zy ?_
 have ho := fun F => own_blk (F := F) (e := 149) (b := b) (l' := s.l.take i.toNat ++ v.l ++ s.l.drop i.toNat) (hic.2.1.trans hcl) (by rw [enc_len] at hic; exact hic.2.2) hLn (by omega) hcm
 exact VC.ret (fin1 (.inr rfl) rfl rfl ⟨some ⟨b, 0, none⟩, s.c, _⟩ (ho Ow.emp).1 rfl (fun _ _ => trivial) (ho _).2)
theorem index_Put_ct (l_0 : Sv IndexEntry) (e_1 : IndexEntry) {r : List IndexEntry} (hS : Sh.index_Put l_0.l e_1 = some r) :
 Ct Tryz.prog 195 [l_0.val, .agg #[str e_1.path, i64 e_1.stage, i64 e_1.mode, str e_1.data, i64 e_1.time, i64 e_1.size]] l_0.ok (Ow.emp) (X := Sv IndexEntry) (fun x => x.val) (fun x => r = x.l) (fun x => x.ok) (fun x => Ow.emp) := by
 refine Zo Tryz.func195 Tryz.ntmps195 fun c => ?_
 unfold Sh.index_Put at hS
 refine Zq (Zr ?_)
 refine VL.box (cs := [str e_1.path, i64 e_1.stage, i64 e_1.mode, str e_1.data, i64 e_1.time, i64 e_1.size]) rfl rfl (by decide) fun b3_1 => ?_
 refine Zy ?_
 refine Zq (Zr ?_)
 refine Zm ?_
 obtain ⟨y8_2, ey8_2, hS⟩ := bd_s hS
 refine VL.callO (slices_Clone_index_Entry_index_Entry_ct l_0 ey8_2) rfl (by decide) ?_
 rintro q8_2_0 rfl
 try dsimp only
 refine Zu (q_mkfn rfl) ?_
 obtain ⟨y10_3, ey10_3, hS⟩ := bd_s hS
 refine VL.callO (slices_DeleteFunc_index_Entry_index_Entry_ct q8_2_0 b3_1 e_1 ey10_3) rfl (by decide) ?_
 rintro q10_3_0 rfl
 try dsimp only
 refine Zy ?_
 refine Zq (Zr ?_)
 refine Zy ?_
 refine VC.cutJ (S := Int) (fun (i6_4 : Int) => i6_4) (fun (i6_4 : Int) => [(3, ptr b3_1 0), (5, q10_3_0.val), (6, i64 i6_4)]) (fun (i6_4 : Int) => Mo.tt) (fun (i6_4 : Int) => Ow.star (Blk b3_1 [str e_1.path, i64 e_1.stage, i64 e_1.mode, str e_1.data, i64 e_1.time, i64 e_1.size] 149) (Ow.star (Sv.own q10_3_0 149) (Ow.emp))) hS ?_ ?_
 ·
  clear hS
  intro k5 hS
  refine Zb ?_
  refine VC.iter (S := Int) (fun (i6_6 : Int) => i6_6) (fun (i6_6 : Int) => [(3, ptr b3_1 0), (5, q10_3_0.val), (6, i64 i6_6)]) (fun (i6_6 : Int) => Mo.tt) (fun (i6_6 : Int) => Ow.star (Blk b3_1 [str e_1.path, i64 e_1.stage, i64 e_1.mode, str e_1.data, i64 e_1.time, i64 e_1.size] 149) (Ow.star (Sv.own q10_3_0 149) (Ow.emp))) 0 [3, 5, 6] hS rfl ?_
  clear hS
  rintro i6_6 m1 y1 hS hK1
  refine Zq (Zq ?_)
  refine VC.draw ((List.range 13).map fun k => (k, true)) mixed (by kernel_rfl) (by kernel_rfl) (by kernel_rfl) ?_
  refine Zw rfl (q_move rfl) ?_
  refine Zw rfl (q_move rfl) ?_
  refine Zw rfl (q_ln (s := q10_3_0) Tryz.underlying25 rfl) ?_
  refine Zw rfl (q_lss rfl rfl) ?_
  refine Zw rfl (q_move rfl) ?_
  refine VD.split_dec 15 rfl (fun h15 => ?_) (fun h15 => ?_)
  ·
   replace hS := it_t h15 hS
   refine Zi rfl (q_move rfl) ?_
   refine Zi rfl (q_move rfl) ?_
   obtain ⟨z18_7, nz18_7, hz18_7, hS⟩ := at_s hS
   refine Zi rfl (q_ixo (s := q10_3_0) Tryz.underlying25 gsz149 rfl rfl nz18_7 (lt_of_get nz18_7 hz18_7)) ?_
   refine Zi rfl (q_elso (s := q10_3_0) gagg149 rfl rfl hz18_7) ?_
   refine Zi rfl (q_fes gagg149 rfl rfl) ?_
   obtain ⟨y21_8, ey21_8, hS⟩ := bd_s hS
   refine Zi rfl (q_call (index_compare_ct z18_7 e_1 ey21_8) rfl (fun _ _ => rfl)) ?_
   refine Zi rfl (q_lss rfl rfl) ?_
   refine Zw rfl (q_pick_t rfl rfl) ?_
   refine VD.to (fun _ _ h => h) ?_
   refine VC.keep (ρ' := [(3, ptr b3_1 0), (5, q10_3_0.val), (6, i64 i6_6), (23, .bool (decide (y21_8 < 0)))]) [3, 5, 6, 23] rfl ?_
   refine Zc hS (fun h23 hS => ?_) (fun h23 hS => ?_)
   ·
    refine Zk ?_
    refine Zb (Zr ?_)
    refine Zm ?_
    obtain ⟨b25, hS⟩ := gd_s hS
    refine Zu (q_add rfl rfl b25) ?_
    refine Za ?_
    refine VL.rnd (i6_6 + 1) [3, 5, 6] (fun _ _ h => h) (go2 hS hK1) rfl
   replace hS := up2 hS hK1
   refine VC.exit_mt i6_6 [3, 5, 6] (fun _ _ h => h) hS rfl
  replace hS := it_f h15 hS
  refine Zd ?_
  refine Zd ?_
  refine Zd ?_
  refine Zd ?_
  refine Zd ?_
  refine Zd ?_
  refine Zd ?_
  refine Zw rfl (q_pick_f rfl rfl) ?_
  refine VD.to (fun _ _ h => h) ?_
  refine VC.keep (ρ' := [(3, ptr b3_1 0), (5, q10_3_0.val), (6, i64 i6_6), (23, .bool false)]) [3, 5, 6, 23] rfl ?_
  refine VC.cond_f rfl ?_
  replace hS := up2 hS hK1
  refine VC.exit_mt i6_6 [3, 5, 6] (fun _ _ h => h) hS rfl
 clear hS
 rintro i6_4 hS
 refine Zq (Zr ?_)
 refine Zy ?_
 refine Zu (q_fes gagg149 rfl rfl) ?_
 refine VL.litO (α := IndexEntry) (xs := [.tmp 28]) (vs := [.agg #[str e_1.path, i64 e_1.stage, i64 e_1.mode, str e_1.data, i64 e_1.time, i64 e_1.size]]) [⟨e_1.path, e_1.stage, e_1.mode, e_1.data, e_1.time, e_1.size⟩] Tryz.underlying25 glit149 (by decide) rfl rfl rfl rfl (by decide) (by decide) (fun s29_9 hs29_9 => ?_) (by decide)
 replace hS := lt_to hs29_9 hS
 obtain ⟨b30, hS⟩ := gd_s hS
 refine VL.callO (insert149_ct q10_3_0 s29_9 i6_4 b30.1 b30.2.1 b30.2.2) rfl (by decide) ?_
 intro s30_11 hs30_11
 replace hS := lt_to hs30_11 hS
 refine VL.shut s30_11 149 (fun _ _ _ _ => trivial) ?_
 obtain ⟨y31_13, ey31_13, hS⟩ := bd_s hS
 refine VL.callF (slices_Clip_index_Entry_index_Entry_ct s30_11 ey31_13) rfl (by decide) ?_
 rintro q31_13_0 rfl
 try dsimp only
 refine Zy ?_
 cases hS
 exact VC.ret (fin1 (.inr rfl) rfl rfl q31_13_0 rfl rfl (by (try dsimp only); exact InM.out) (fun _ _ => trivial))
theorem repo_next_ct (l_0 : Sv IndexEntry) (work_1 : Sv FilesFile) (p_2 : Str) {r : List IndexEntry} (hS : Sh.repo_next l_0.l work_1.l p_2 = some r) :
 Ct Tryz.prog 113 [l_0.val, work_1.val, str p_2] (l_0.ok.and work_1.ok) (Ow.emp) (X := Sv IndexEntry) (fun x => x.val) (fun x => r = x.l) (fun x => x.ok) (fun x => Ow.emp) := by
 refine Zo Tryz.func113 Tryz.ntmps113 fun c => ?_
 unfold Sh.repo_next at hS
 refine Zq (Zr ?_)
 refine Zy ?_
 refine Zq (Zr ?_)
 refine Zy ?_
 obtain ⟨y12_1, ey12_1, hS⟩ := bd_s hS
 refine Zu (q_call (files_Row_Get_ct work_1 p_2 ey12_1) rfl (fun _ _ => rfl)) ?_
 refine Zm ?_
 refine Zu (q_extract rfl rfl) ?_
 refine Zu (q_extract rfl rfl) ?_
 refine VL.alloc (cs := [str [], i64 0, str []]) (by kernel_rfl) (by decide) fun b7_2 => ?_
 refine Zv (vc := [str y12_1.1.path, i64 y12_1.1.mode, str y12_1.1.data]) (cs' := [str y12_1.1.path, i64 y12_1.1.mode, str y12_1.1.data]) rfl gsz75 ?_
 refine Zy ?_
 refine VC.keep (ρ' := [(0, l_0.val), (2, str p_2), (7, ptr b7_2 0), (8, .bool y12_1.2)]) [0, 2, 7, 8] rfl ?_
 refine Zq (Zq (Zr ?_))
 refine Zm ?_
 refine Zu (q_not rfl) ?_
 refine Zl ?_
 refine Zcb hS (fun h16 hS => ?_) (fun h16 hS => ?_)
 ·
  refine Zq ?_
  cases hS
 refine Zk ?_
 refine Zq (Zr ?_)
 refine Zy ?_
 refine Zu (q_field gfa75_1 rfl) ?_
 refine Zu (q_fe gone3 rfl rfl) ?_
 refine Zu (q_field gfa75_2 rfl) ?_
 refine Zu (q_fe gone9 rfl rfl) ?_
 refine Zu (q_build (vs := [(0, str p_2), (2, i64 y12_1.1.mode), (3, str y12_1.1.data)]) (cs := #[str p_2, i64 0, i64 y12_1.1.mode, str y12_1.1.data, i64 0, i64 0]) rfl (by kernel_rfl)) ?_
 obtain ⟨y27_3, ey27_3, hS⟩ := bd_s hS
 refine VL.callF (index_Put_ct l_0 (⟨p_2, 0, y12_1.1.mode, y12_1.1.data, 0, 0⟩ : IndexEntry) ey27_3) rfl (by decide) ?_
 rintro q27_3_0 rfl
 try dsimp only
 refine Zy ?_
 refine VC.keep (ρ' := [(6, q27_3_0.val)]) [6] rfl ?_
 cases hS
 exact VC.ret (fin1 (.inr rfl) rfl rfl q27_3_0 rfl rfl (by (try dsimp only); exact InM.out) (fun _ _ => trivial))
end Go.Proofs.YtdfbpkpldjpioaaGreatDoor
end

section
set_option linter.unusedVariables false
namespace Go.Proofs.YtdfbpkpldjpioaaGreatDoor
set_option maxHeartbeats 4000000
set_option maxRecDepth 100000
set_option synthInstance.maxSize 2000
set_option synthInstance.maxHeartbeats 1000000
open Go.RowKit Go.V
open Go.S hiding Str
theorem index_Same_1_ct (x_0 : IndexEntry) (y_1 : IndexEntry) {r : Bool} (hS : Sh.index_Same_1 x_0 y_1 = some r) :
 Ct Tryz.prog 74 [.agg #[str x_0.path, i64 x_0.stage, i64 x_0.mode, str x_0.data, i64 x_0.time, i64 x_0.size], .agg #[str y_1.path, i64 y_1.stage, i64 y_1.mode, str y_1.data, i64 y_1.time, i64 y_1.size]] Mo.tt (Ow.emp) (X := Unit) (fun _ => .bool r) (fun _ => True) (fun _ => Mo.tt) (fun _ => Ow.emp) := by
 refine Zo Tryz.func74 Tryz.ntmps74 fun c => ?_
 unfold Sh.index_Same_1 at hS
 refine Zq (Zr ?_)
 refine VL.box (cs := [str x_0.path, i64 x_0.stage, i64 x_0.mode, str x_0.data, i64 x_0.time, i64 x_0.size]) rfl rfl (by decide) fun b2_1 => ?_
 refine VL.box (cs := [str y_1.path, i64 y_1.stage, i64 y_1.mode, str y_1.data, i64 y_1.time, i64 y_1.size]) rfl rfl (by decide) fun b3_2 => ?_
 refine Zy ?_
 refine Zq (Zr ?_)
 refine Zu (q_field gfa149_0 rfl) ?_
 refine Zu (q_fe gone9 rfl rfl) ?_
 refine Zu (q_field gfa149_0 rfl) ?_
 refine Zu (q_fe gone9 rfl rfl) ?_
 refine Zy ?_
 refine Zsp 10 hS (fun h10 hS => ?_) (fun h10 hS => ?_)
 ·
  refine Zh (q_field gfa149_1 rfl) ?_
  refine Zh (q_fe gone3 rfl rfl) ?_
  refine Zh (q_field gfa149_1 rfl) ?_
  refine Zh (q_fe gone3 rfl rfl) ?_
  refine Zh (q_eql rfl rfl) ?_
  refine Zy ?_
  refine Zsp 17 hS (fun h17 hS => ?_) (fun h17 hS => ?_)
  ·
   refine Zh (q_field gfa149_2 rfl) ?_
   refine Zh (q_fe gone3 rfl rfl) ?_
   refine Zh (q_field gfa149_2 rfl) ?_
   refine Zh (q_fe gone3 rfl rfl) ?_
   refine Zh (q_eql rfl rfl) ?_
   refine Zy ?_
   refine Zsp 24 hS (fun h24 hS => ?_) (fun h24 hS => ?_)
   ·
    refine Zh (q_field gfa149_3 rfl) ?_
    refine Zh (q_fe gone9 rfl rfl) ?_
    refine Zh (q_field gfa149_3 rfl) ?_
    refine Zh (q_fe gone9 rfl rfl) ?_
    refine Zh (q_seq rfl rfl) ?_
    refine Zy ?_
    refine VC.keep (ρ' := [(4, .bool (decide (x_0.data = y_1.data)))]) [4] rfl ?_
    cases hS
    exact Ze
   refine VL.skips 5 [29] (by kernel_rfl) ?_
   refine Zy ?_
   refine VC.keep (ρ' := [(4, .bool false)]) [4] rfl ?_
   cases hS
   exact Ze
  refine VL.skips 5 [22] (by kernel_rfl) ?_
  refine Zf ?_
  refine Zm ?_
  refine VL.skips 5 [29] (by kernel_rfl) ?_
  refine Zy ?_
  refine VC.keep (ρ' := [(4, .bool false)]) [4] rfl ?_
  cases hS
  exact Ze
 refine VL.skips 5 [15] (by kernel_rfl) ?_
 refine Zf ?_
 refine Zm ?_
 refine VL.skips 5 [22] (by kernel_rfl) ?_
 refine Zf ?_
 refine Zm ?_
 refine VL.skips 5 [29] (by kernel_rfl) ?_
 refine Zy ?_
 refine VC.keep (ρ' := [(4, .bool false)]) [4] rfl ?_
 cases hS
 exact Ze
theorem slices_EqualFunc_index_Entry_index_Entry_index_Entry_index_Entry_ct (s1_0 : Sv IndexEntry) (s2_1 : Sv IndexEntry) {r : Bool} (hS : Sh.slices_EqualFunc_index_Entry_index_Entry_index_Entry_index_Entry s1_0.l s2_1.l = some r) :
 Ct Tryz.prog 73 [s1_0.val, s2_1.val, .func (.func 74) #[] #[]] (s1_0.ok.and s2_1.ok) (Ow.emp) (X := Unit) (fun _ => .bool r) (fun _ => True) (fun _ => Mo.tt) (fun _ => Ow.emp) := by
 refine Zo Tryz.func73 Tryz.ntmps73 fun c => ?_
 unfold Sh.slices_EqualFunc_index_Entry_index_Entry_index_Entry_index_Entry at hS
 refine Zq (Zr ?_)
 refine Zy ?_
 refine Zq (Zq (Zr ?_))
 refine Zm ?_
 refine Zu (q_ln (s := s1_0) Tryz.underlying25 rfl) ?_
 refine Zm ?_
 refine Zu (q_ln (s := s2_1) Tryz.underlying25 rfl) ?_
 refine Zu (q_neq rfl rfl) ?_
 refine Zl ?_
 refine Zcn hS (fun h14 hS => ?_) (fun h14 hS => ?_)
 ·
  refine Zq (Zr ?_)
  refine Zy ?_
  cases hS
  exact Ze
 refine Zk ?_
 refine Zq (Zq (Zr ?_))
 refine Zm ?_
 refine Zu (q_ln (s := s1_0) Tryz.underlying25 rfl) ?_
 refine Zy ?_
 refine VC.keep (ρ' := [(1, s2_1.val), (2, .func (.func 74) #[] #[]), (15, s1_0.val), (16, i64 (s1_0.l.length : Int)), (17, i64 0)]) [1, 2, 15, 16, 17] rfl ?_
 refine Zb ?_
 refine VC.iter (S := Int) (fun (x17_1 : Int) => x17_1) (fun (x17_1 : Int) => [(1, s2_1.val), (2, .func (.func 74) #[] #[]), (15, s1_0.val), (16, i64 (s1_0.l.length : Int)), (17, i64 x17_1)]) (fun (x17_1 : Int) => Mo.tt) (fun (x17_1 : Int) => Ow.emp) 0 [1, 2, 15, 16, 17] hS rfl ?_
 clear hS
 rintro x17_1 m1 y1 hS hK1
 refine Zq (Zr ?_)
 refine Zu (q_lss rfl rfl) ?_
 refine Zl ?_
 refine Zq ?_
 refine Zc hS (fun h18 hS => ?_) (fun h18 hS => ?_)
 ·
  refine Zk ?_
  refine Zq (Zb (Zq (Zr ?_)))
  refine Zm ?_
  obtain ⟨z20_2, nz20_2, hz20_2, hS⟩ := at_s hS
  refine Zu (q_ixm (s := s1_0) Tryz.underlying25 gsz149 rfl rfl nz20_2 (lt_of_get nz20_2 hz20_2)) ?_
  refine Zu (q_els (s := s1_0) gagg149 rfl rfl hz20_2) ?_
  refine VL.alloc (cs := [str [], i64 0, i64 0, str [], i64 0, i64 0]) (by kernel_rfl) (by decide) fun b8_3 => ?_
  refine Za ?_
  refine Zv (vc := [str z20_2.path, i64 z20_2.stage, i64 z20_2.mode, str z20_2.data, i64 z20_2.time, i64 z20_2.size]) (cs' := [str z20_2.path, i64 z20_2.stage, i64 z20_2.mode, str z20_2.data, i64 z20_2.time, i64 z20_2.size]) rfl gsz149 ?_
  refine Zl ?_
  refine Zq (Zr ?_)
  refine Zy ?_
  obtain ⟨z24_4, nz24_4, hz24_4, hS⟩ := at_s hS
  refine Zu (q_ixm (s := s2_1) Tryz.underlying25 gsz149 rfl rfl nz24_4 (lt_of_get nz24_4 hz24_4)) ?_
  refine Zu (q_els (s := s2_1) gagg149 rfl rfl hz24_4) ?_
  refine VL.alloc (cs := [str [], i64 0, i64 0, str [], i64 0, i64 0]) (by kernel_rfl) (by decide) fun b9_5 => ?_
  refine Zv (vc := [str z24_4.path, i64 z24_4.stage, i64 z24_4.mode, str z24_4.data, i64 z24_4.time, i64 z24_4.size]) (cs' := [str z24_4.path, i64 z24_4.stage, i64 z24_4.mode, str z24_4.data, i64 z24_4.time, i64 z24_4.size]) rfl gsz149 ?_
  refine Zl ?_
  refine VC.keep (ρ' := [(1, s2_1.val), (2, .func (.func 74) #[] #[]), (15, s1_0.val), (16, i64 (s1_0.l.length : Int)), (17, i64 x17_1), (8, ptr b8_3 0), (9, ptr b9_5 0)]) [1, 2, 15, 16, 17, 8, 9] rfl ?_
  refine Zq (Zr ?_)
  refine Zm ?_
  refine Zu (q_fes gagg149 rfl rfl) ?_
  refine Zu (q_fes gagg149 rfl rfl) ?_
  obtain ⟨y29_6, ey29_6, hS⟩ := bd_s hS
  refine Zu (q_callV (index_Same_1_ct z20_2 z24_4 ey29_6) rfl rfl (fun _ _ => rfl)) ?_
  refine Zu (q_not rfl) ?_
  refine Zl ?_
  refine Zcb hS (fun h30 hS => ?_) (fun h30 hS => ?_)
  ·
   refine Zq (Zr ?_)
   refine Zy ?_
   refine VC.keep (ρ' := [(6, .bool false)]) [6] rfl ?_
   replace hS := up2 hS hK1
   cases hS
   exact Ze
  refine Zk ?_
  refine VC.keep (ρ' := [(1, s2_1.val), (2, .func (.func 74) #[] #[]), (15, s1_0.val), (16, i64 (s1_0.l.length : Int)), (17, i64 x17_1)]) [1, 2, 15, 16, 17] rfl ?_
  refine Zr ?_
  obtain ⟨b31, hS⟩ := gd_s hS
  refine Zu (q_add rfl rfl b31) ?_
  refine Zm ?_
  refine VL.rnd (x17_1 + 1) [1, 2, 15, 16, 17] (fun _ _ h => h) (go2 hS hK1) rfl
 replace hS := up2 hS hK1
 refine Zx ?_
 refine Zq (Zr ?_)
 refine Zy ?_
 cases hS
 exact Ze
theorem index_Same_ct (a_0 : Sv IndexEntry) (b_1 : Sv IndexEntry) {r : Bool} (hS : Sh.index_Same a_0.l b_1.l = some r) :
 Ct Tryz.prog 38 [a_0.val, b_1.val] (a_0.ok.and b_1.ok) (Ow.emp) (X := Unit) (fun _ => .bool r) (fun _ => True) (fun _ => Mo.tt) (fun _ => Ow.emp) := by
 refine Zo Tryz.func38 Tryz.ntmps38 fun c => ?_
 unfold Sh.index_Same at hS
 refine Zq (Zr ?_)
 refine Zy ?_
 refine Zq (Zr ?_)
 refine Zy ?_
 obtain ⟨y7_1, ey7_1, hS⟩ := bd_s hS
 refine Zu (q_call (slices_EqualFunc_index_Entry_index_Entry_index_Entry_index_Entry_ct a_0 b_1 ey7_1) rfl (fun _ _ => rfl)) ?_
 refine Zy ?_
 cases hS
 exact Ze
theorem repo_add_ct (s_0 : StateState) (name_1 : Str) {r : StateStateP × Err} (hS : Sh.repo_add s_0.pl name_1 = some r) :
 Ct Tryz.prog 60 [.agg (zStateState s_0).toArray, str name_1] (s_0.now_work.ok.and (s_0.now_index.ok.and (s_0.now_refs.ok.and (s_0.now_seq_doing.ok.and (s_0.now_seq_todo.ok.and (s_0.now_seq_index.ok.and (s_0.now_seq_work.ok.and (s_0.now_stash.ok.and (s_0.commits.ok.and (s_0.log_back.ok.and s_0.log_forth.ok)))))))))) (Ow.emp) (X := StateState × Er) (fun x => .tuple #[.agg (Dat.enc x.1).toArray, x.2.val]) (fun x => r = (x.1.pl, x.2.pl)) (fun x => (x.1.m.and x.2.ok)) (fun x => Ow.emp) := by
 refine Zo Tryz.func60 Tryz.ntmps60 fun c => ?_
 unfold Sh.repo_add at hS
 refine Zq (Zr ?_)
 refine VL.box (cs := (zStateState s_0)) rfl rfl (by decide) fun b2_1 => ?_
 refine VL.alloc (cs := [.slice none 0 0, .slice none 0 0, .slice none 0 0, str [], i64 0, str [], i64 0, str [], .slice none 0 0, .slice none 0 0, i64 0, str [], str [], i64 0, .slice none 0 0, .slice none 0 0, .slice none 0 0, .slice none 0 0, .slice none 0 0, .slice none 0 0, i64 0]) (by kernel_rfl) (by decide) fun b4_2 => ?_
 refine Zy ?_
 refine Zq (Zr ?_)
 refine Zm ?_
 refine VL.lit (α := Str) (xs := [.tmp 12]) (vs := [str name_1]) [name_1] Tryz.underlying37 glit9 (by decide) rfl rfl rfl rfl (by decide) (fun _ _ _ _ => trivial) (by decide) (fun s13_3 hs13_3 => ?_) (by decide)
 replace hS := lt_to hs13_3 hS
 refine Zy ?_
 refine Zq (Zr ?_)
 refine Zu (q_field gfa41_0 rfl) ?_
 refine Zu (q_field gfa35_0 rfl) ?_
 refine Zu (q_fe gone24 rfl rfl) ?_
 refine Zm ?_
 obtain ⟨y19_5, ey19_5, hS⟩ := bd_s hS
 refine Zu (q_call (files_Row_Get_ct s_0.now_work name_1 ey19_5) rfl (fun _ _ => rfl)) ?_
 refine Zm ?_
 refine Zu (q_extract rfl rfl) ?_
 refine Zu (q_extract rfl rfl) ?_
 refine VL.alloc (cs := [str [], i64 0, str []]) (by kernel_rfl) (by decide) fun b7_6 => ?_
 refine Zv (vc := [str y19_5.1.path, i64 y19_5.1.mode, str y19_5.1.data]) (cs' := [str y19_5.1.path, i64 y19_5.1.mode, str y19_5.1.data]) rfl gsz75 ?_
 refine Zy ?_
 refine VC.keep (ρ' := [(1, str name_1), (2, ptr b2_1 0), (4, ptr b4_2 0), (6, s13_3.val), (8, .bool y19_5.2)]) [1, 2, 4, 6, 8] rfl ?_
 refine Zq (Zb (Zq (Zr ?_)))
 refine Zy ?_
 refine Zc hS (fun h22 hS => ?_) (fun h22 hS => ?_)
 ·
  cases hS
 refine VC.cutJ (S := Bool) (fun (x32_7 : Bool) => x32_7) (fun (x32_7 : Bool) => [(2, ptr b2_1 0), (4, ptr b4_2 0), (6, s13_3.val), (32, .bool x32_7)]) (fun (x32_7 : Bool) => Mo.tt) (fun (x32_7 : Bool) => Ow.star (Blk b7_6 [str y19_5.1.path, i64 y19_5.1.mode, str y19_5.1.data] 75) (Ow.star (Blk b4_2 [.slice none 0 0, .slice none 0 0, .slice none 0 0, str [], i64 0, str [], i64 0, str [], .slice none 0 0, .slice none 0 0, i64 0, str [], str [], i64 0, .slice none 0 0, .slice none 0 0, .slice none 0 0, .slice none 0 0, .slice none 0 0, .slice none 0 0, i64 0] 41) (Ow.star (Blk b2_1 (zStateState s_0) 41) (Ow.emp)))) hS ?_ ?_
 ·
  clear hS
  intro k8 hS
  refine Zr ?_
  refine Zm ?_
  refine Zu (q_not rfl) ?_
  refine Zm ?_
  refine Zspb 35 hS (fun h35 hS => ?_) (fun h35 hS => ?_)
  ·
   refine Zh (q_field gfa41_0 rfl) ?_
   refine Zh (q_field gfa35_1 rfl) ?_
   refine Zh (q_fe gone25 rfl rfl) ?_
   refine Zg ?_
   obtain ⟨y40_9, ey40_9, hS⟩ := bd_s hS
   refine Zh (q_call (repo_known_ct s_0.now_index name_1 ey40_9) rfl (fun _ _ => rfl)) ?_
   refine Zh (q_not rfl) ?_
   refine Zy ?_
   refine VL.mt (!y40_9) [2, 4, 6, 32] (fun _ _ h => h) hS rfl
  refine VL.skips 6 [41] (by kernel_rfl) ?_
  refine Zy ?_
  refine VL.mt false [2, 4, 6, 32] (fun _ _ h => h) hS rfl
 clear hS
 rintro x32_7 hS
 refine Zcb hS (fun h32 hS => ?_) (fun h32 hS => ?_)
 ·
  refine Zq ?_
  cases hS
 refine Zk ?_
 refine Zq (Zr ?_)
 refine Zu (q_fes gagg41 rfl rfl) ?_
 refine VL.alloc (cs := [.slice none 0 0, .slice none 0 0, .slice none 0 0, str [], i64 0, str [], i64 0, str [], .slice none 0 0, .slice none 0 0, i64 0, str [], str [], i64 0, .slice none 0 0, .slice none 0 0, .slice none 0 0, .slice none 0 0, .slice none 0 0, .slice none 0 0, i64 0]) (by kernel_rfl) (by decide) fun b9_10 => ?_
 refine Zv (vc := (zStateState s_0)) (cs' := (zStateState s_0)) rfl gsz41 ?_
 refine Zl ?_
 refine Zq (Zq (Zr ?_))
 refine Zm ?_
 refine Zu (q_ln (s := s13_3) Tryz.underlying37 rfl) ?_
 refine Zy ?_
 refine Zb ?_
 refine VC.iter (S := Int × Sv IndexEntry) (fun sg => (sg.1, sg.2.l)) (fun sg => [(2, ptr b2_1 0), (4, ptr b4_2 0), (9, ptr b9_10 0), (46, s13_3.val), (47, i64 (s13_3.l.length : Int)), (48, i64 sg.1)]) (fun sg => sg.2.ok) (fun sg => Ow.star (Blk b9_10 [s_0.now_work.val, sg.2.val, s_0.now_refs.val, str s_0.now_head_branch, i64 s_0.now_head_commit, str s_0.now_seq_kind, i64 s_0.now_seq_other, str s_0.now_seq_text, s_0.now_seq_doing.val, s_0.now_seq_todo.val, i64 s_0.now_seq_made, str s_0.now_seq_branch, str s_0.now_seq_head_branch, i64 s_0.now_seq_head_commit, s_0.now_seq_index.val, s_0.now_seq_work.val, s_0.now_stash.val, s_0.commits.val, s_0.log_back.val, s_0.log_forth.val, i64 s_0.time] 41) (Ow.star (Blk b7_6 [str y19_5.1.path, i64 y19_5.1.mode, str y19_5.1.data] 75) (Ow.star (Blk b4_2 [.slice none 0 0, .slice none 0 0, .slice none 0 0, str [], i64 0, str [], i64 0, str [], .slice none 0 0, .slice none 0 0, i64 0, str [], str [], i64 0, .slice none 0 0, .slice none 0 0, .slice none 0 0, .slice none 0 0, .slice none 0 0, .slice none 0 0, i64 0] 41) (Ow.star (Blk b2_1 (zStateState s_0) 41) (Ow.emp))))) (0, s_0.now_index) [2, 4, 9, 46, 47, 48] hS rfl ?_
 clear hS
 rintro ⟨x48_11, c1_12⟩ m1 y1 hS hK1
 refine Zq (Zr ?_)
 refine Zu (q_lss rfl rfl) ?_
 refine Zl ?_
 refine Zq ?_
 refine Zc hS (fun h49 hS => ?_) (fun h49 hS => ?_)
 ·
  refine Zk ?_
  refine Zq (Zb (Zq (Zr ?_)))
  obtain ⟨z50_13, nz50_13, hz50_13, hS⟩ := at_s hS
  refine Zu (q_ixm (s := s13_3) Tryz.underlying37 gsz9 rfl rfl nz50_13 (lt_of_get nz50_13 hz50_13)) ?_
  refine Zu (q_el (s := s13_3) gone9 rfl hz50_13 rfl) ?_
  refine Zy ?_
  refine Zr ?_
  refine Zu (q_field gfa41_0 rfl) ?_
  refine Zu (q_field gfa35_1 rfl) ?_
  refine Zu (q_fe gone25 rfl rfl) ?_
  refine Zu (q_field gfa41_0 rfl) ?_
  refine Zu (q_field gfa35_0 rfl) ?_
  refine Zu (q_fe gone24 rfl rfl) ?_
  refine Zm ?_
  obtain ⟨y59_14, ey59_14, hS⟩ := bd_s hS
  refine VL.callF (repo_next_ct c1_12 s_0.now_work z50_13 ey59_14) rfl (by decide) ?_
  rintro q59_14_0 rfl
  try dsimp only
  refine Zu (q_field gfa41_0 rfl) ?_
  refine Zu (q_field gfa35_1 rfl) ?_
  refine Zv (vc := [q59_14_0.val]) (cs' := [s_0.now_work.val, q59_14_0.val, s_0.now_refs.val, str s_0.now_head_branch, i64 s_0.now_head_commit, str s_0.now_seq_kind, i64 s_0.now_seq_other, str s_0.now_seq_text, s_0.now_seq_doing.val, s_0.now_seq_todo.val, i64 s_0.now_seq_made, str s_0.now_seq_branch, str s_0.now_seq_head_branch, i64 s_0.now_seq_head_commit, s_0.now_seq_index.val, s_0.now_seq_work.val, s_0.now_stash.val, s_0.commits.val, s_0.log_back.val, s_0.log_forth.val, i64 s_0.time]) rfl gsz25 ?_
  refine Zl ?_
  refine VC.keep (ρ' := [(2, ptr b2_1 0), (4, ptr b4_2 0), (9, ptr b9_10 0), (46, s13_3.val), (47, i64 (s13_3.l.length : Int)), (48, i64 x48_11)]) [2, 4, 9, 46, 47, 48] rfl ?_
  refine Zr ?_
  obtain ⟨b62, hS⟩ := gd_s hS
  refine Zu (q_add rfl rfl b62) ?_
  refine Zm ?_
  refine VL.rnd ((x48_11 + 1), q59_14_0) [2, 4, 9, 46, 47, 48] (fun _ _ h => h) (go2 hS hK1) rfl
 replace hS := up2 hS hK1
 refine Zx ?_
 refine Zq (Zb (Zq (Zr ?_)))
 refine Zu (q_field gfa41_0 rfl) ?_
 refine Zu (q_field gfa35_1 rfl) ?_
 refine Zu (q_fe gone25 rfl rfl) ?_
 refine Zu (q_field gfa41_0 rfl) ?_
 refine Zu (q_field gfa35_1 rfl) ?_
 refine Zu (q_fe gone25 rfl rfl) ?_
 obtain ⟨y70_15, ey70_15, hS⟩ := bd_s hS
 refine Zu (q_call (index_Same_ct c1_12 s_0.now_index ey70_15) rfl (fun _ _ => rfl)) ?_
 refine Zy ?_
 refine VC.keep (ρ' := [(2, ptr b2_1 0), (4, ptr b4_2 0), (9, ptr b9_10 0), (63, .bool y70_15)]) [2, 4, 9, 63] rfl ?_
 refine Zcb hS (fun h63 hS => ?_) (fun h63 hS => ?_)
 ·
  refine Zq ?_
  cases hS
 refine Zq (Zr ?_)
 refine Zu (q_field gfa41_0 rfl) ?_
 refine Zu (q_field gfa35_1 rfl) ?_
 refine Zu (q_fe gone25 rfl rfl) ?_
 refine Zu (q_ln (s := c1_12) Tryz.underlying25 rfl) ?_
 refine Zu (q_gtr rfl rfl) ?_
 refine Zy ?_
 refine Zc hS (fun h73 hS => ?_) (fun h73 hS => ?_)
 ·
  refine Zq ?_
  cases hS
 refine Zk ?_
 refine Zq (Zr ?_)
 refine Zu (q_fes gagg41 rfl rfl) ?_
 refine Zv (vc := [s_0.now_work.val, c1_12.val, s_0.now_refs.val, str s_0.now_head_branch, i64 s_0.now_head_commit, str s_0.now_seq_kind, i64 s_0.now_seq_other, str s_0.now_seq_text, s_0.now_seq_doing.val, s_0.now_seq_todo.val, i64 s_0.now_seq_made, str s_0.now_seq_branch, str s_0.now_seq_head_branch, i64 s_0.now_seq_head_commit, s_0.now_seq_index.val, s_0.now_seq_work.val, s_0.now_stash.val, s_0.commits.val, s_0.log_back.val, s_0.log_forth.val, i64 s_0.time]) (cs' := [s_0.now_work.val, c1_12.val, s_0.now_refs.val, str s_0.now_head_branch, i64 s_0.now_head_commit, str s_0.now_seq_kind, i64 s_0.now_seq_other, str s_0.now_seq_text, s_0.now_seq_doing.val, s_0.now_seq_todo.val, i64 s_0.now_seq_made, str s_0.now_seq_branch, str s_0.now_seq_head_branch, i64 s_0.now_seq_head_commit, s_0.now_seq_index.val, s_0.now_seq_work.val, s_0.now_stash.val, s_0.commits.val, s_0.log_back.val, s_0.log_forth.val, i64 s_0.time]) rfl gsz41 ?_
 refine Zy ?_
 refine VC.keep (ρ' := [(4, ptr b4_2 0), (5, .nilIface)]) [4, 5] rfl ?_
 cases hS
 exact VC.ret (finG (vs := [.agg #[s_0.now_work.val, c1_12.val, s_0.now_refs.val, str s_0.now_head_branch, i64 s_0.now_head_commit, str s_0.now_seq_kind, i64 s_0.now_seq_other, str s_0.now_seq_text, s_0.now_seq_doing.val, s_0.now_seq_todo.val, i64 s_0.now_seq_made, str s_0.now_seq_branch, str s_0.now_seq_head_branch, i64 s_0.now_seq_head_commit, s_0.now_seq_index.val, s_0.now_seq_work.val, s_0.now_stash.val, s_0.commits.val, s_0.log_back.val, s_0.log_forth.val, i64 s_0.time], .nilIface]) (.inr rfl) rfl (RVs.cell gagg41 rfl rfl Rd.blk (RVs.tmp rfl (RVs.nil))) (⟨s_0.now_work, c1_12, s_0.now_refs, s_0.now_head_branch, s_0.now_head_commit, s_0.now_seq_kind, s_0.now_seq_other, s_0.now_seq_text, s_0.now_seq_doing, s_0.now_seq_todo, s_0.now_seq_made, s_0.now_seq_branch, s_0.now_seq_head_branch, s_0.now_seq_head_commit, s_0.now_seq_index, s_0.now_seq_work, s_0.now_stash, s_0.commits, s_0.log_back, s_0.log_forth, s_0.time⟩, .nil) rfl rfl (by (try dsimp only); exact InM.out) (fun _ _ => trivial))
theorem index_Stage_ct (l_0 : Sv IndexEntry) (n_1 : Int) {r : List FilesFile} (hS : Sh.index_Stage l_0.l n_1 = some r) :
 Ct Tryz.prog 114 [l_0.val, i64 n_1] l_0.ok (Ow.emp) (X := Sv FilesFile) (fun x => x.val) (fun x => r = x.l) (fun x => x.ok) (fun x => Ow.emp) := by
 refine Zo Tryz.func114 Tryz.ntmps114 fun c => ?_
 unfold Sh.index_Stage at hS
 refine Zq (Zr ?_)
 refine Zy ?_
 refine Zq (Zr ?_)
 refine Zy ?_
 refine Zq (Zq (Zr ?_))
 refine Zm ?_
 refine Zu (q_ln (s := l_0) Tryz.underlying25 rfl) ?_
 refine Zy ?_
 refine Zb ?_
 refine VC.nilO (⟨none, 0, []⟩ : Sv FilesFile) 75 ⟨rfl, rfl⟩ ?_
 refine VC.iter (S := Sv FilesFile × Int) (fun sg => (sg.1.l, sg.2)) (fun sg => [(1, i64 n_1), (5, sg.1.val), (8, l_0.val), (9, i64 (l_0.l.length : Int)), (10, i64 sg.2)]) (fun sg => Mo.tt) (fun sg => Ow.star (Sv.own sg.1 75) (Ow.emp)) (⟨none, 0, []⟩, 0) [1, 5, 8, 9, 10] hS rfl ?_
 clear hS
 rintro ⟨out5_1, x10_2⟩ m1 y1 hS hK1
 refine Zq (Zr ?_)
 refine Zu (q_lss rfl rfl) ?_
 refine Zl ?_
 refine Zq ?_
 refine Zc hS (fun h11 hS => ?_) (fun h11 hS => ?_)
 ·
  refine Zk ?_
  refine Zq (Zb (Zq (Zr ?_)))
  obtain ⟨z12_3, nz12_3, hz12_3, hS⟩ := at_s hS
  refine Zu (q_ixm (s := l_0) Tryz.underlying25 gsz149 rfl rfl nz12_3 (lt_of_get nz12_3 hz12_3)) ?_
  refine Zu (q_els (s := l_0) gagg149 rfl rfl hz12_3) ?_
  refine VL.alloc (cs := [str [], i64 0, i64 0, str [], i64 0, i64 0]) (by kernel_rfl) (by decide) fun b7_4 => ?_
  refine Zv (vc := [str z12_3.path, i64 z12_3.stage, i64 z12_3.mode, str z12_3.data, i64 z12_3.time, i64 z12_3.size]) (cs' := [str z12_3.path, i64 z12_3.stage, i64 z12_3.mode, str z12_3.data, i64 z12_3.time, i64 z12_3.size]) rfl gsz149 ?_
  refine Zl ?_
  refine Zq (Zr ?_)
  refine Zu (q_field gfa149_1 rfl) ?_
  refine Zu (q_fe gone3 rfl rfl) ?_
  refine Zm ?_
  refine Zu (q_eql rfl rfl) ?_
  refine Zl ?_
  refine Zc hS (fun h17 hS => ?_) (fun h17 hS => ?_)
  ·
   refine Zr ?_
   refine Zm ?_
   refine Zu (q_field gfa149_0 rfl) ?_
   refine Zu (q_fe gone9 rfl rfl) ?_
   refine Zu (q_field gfa149_2 rfl) ?_
   refine Zu (q_fe gone3 rfl rfl) ?_
   refine Zu (q_field gfa149_3 rfl) ?_
   refine Zu (q_fe gone9 rfl rfl) ?_
   refine Zu (q_build (vs := [(0, str z12_3.path), (1, i64 z12_3.mode), (2, str z12_3.data)]) (cs := #[str z12_3.path, i64 z12_3.mode, str z12_3.data]) rfl (by kernel_rfl)) ?_
   refine VL.lit (α := FilesFile) (xs := [.tmp 25]) (vs := [.agg #[str z12_3.path, i64 z12_3.mode, str z12_3.data]]) [⟨z12_3.path, z12_3.mode, z12_3.data⟩] Tryz.underlying24 glit75 (by decide) rfl rfl rfl rfl (by decide) (fun _ _ _ _ => trivial) (by decide) (fun s26_5 hs26_5 => ?_) (by decide)
   replace hS := lt_to hs26_5 hS
   obtain ⟨b27, hS⟩ := gd_s hS
   refine VL.app (s := out5_1) (r := s26_5) Tryz.underlying24 gapp75 (by decide) rfl Fo.out (ap1 b27) (ap2 b27 (by decide)) (by decide) (fun s27_7 hs27_7 => ?_)
   replace hS := lt_to hs27_7 hS
   refine Zy ?_
   refine VC.keep (ρ' := [(1, i64 n_1), (5, s27_7.val), (8, l_0.val), (9, i64 (l_0.l.length : Int)), (10, i64 x10_2)]) [1, 5, 8, 9, 10] rfl ?_
   refine Zr ?_
   obtain ⟨b28, hS⟩ := gd_s hS
   refine Zu (q_add rfl rfl b28) ?_
   refine Zm ?_
   refine VL.rnd (s27_7, (x10_2 + 1)) [1, 5, 8, 9, 10] (fun _ _ h => h) (go2 hS hK1) rfl
  refine Zk ?_
  refine VC.keep (ρ' := [(1, i64 n_1), (5, out5_1.val), (8, l_0.val), (9, i64 (l_0.l.length : Int)), (10, i64 x10_2)]) [1, 5, 8, 9, 10] rfl ?_
  refine Zr ?_
  obtain ⟨b28, hS⟩ := gd_s hS
  refine Zu (q_add rfl rfl b28) ?_
  refine Zm ?_
  refine VL.rnd (out5_1, (x10_2 + 1)) [1, 5, 8, 9, 10] (fun _ _ h => h) (go2 hS hK1) rfl
 replace hS := up2 hS hK1
 refine Zx ?_
 refine Zq (Zr ?_)
 refine Zm ?_
 refine VL.shut out5_1 75 (fun _ _ _ _ => trivial) ?_
 obtain ⟨y30_9, ey30_9, hS⟩ := bd_s hS
 refine VL.callF (slices_Clip_files_Row_files_File_ct out5_1 ey30_9) rfl (by decide) ?_
 rintro q30_9_0 rfl
 try dsimp only
 refine Zy ?_
 cases hS
 exact VC.ret (fin1 (.inr rfl) rfl rfl q30_9_0 rfl rfl (by (try dsimp only); exact InM.out) (fun _ _ => trivial))
theorem sort202_ct (s : Sv Str) (hb : s.l.length ≤ 4294967296) : Ct Tryz.prog 202 [s.val] Mo.tt (s.own 9) (X := Sv Str) (fun _ => .tuple #[]) (fun q => q.l = Go.S.sortS s.l ∧ q.val = s.val) (fun _ => Mo.tt) (fun q => q.own 9) :=
  Ct.sort (entry_of Tryz.func202 rfl (by kernel_rfl)) (fun blk off cap ss w hH hb hs => Tryz.slices_Sort_string blk off cap ss w hH hb hs) (fun p cap w => Tryz.slices_Sort_string_none p cap w) s 9 hb
theorem compact203_ct (s : Sv Str) (hb : s.l.length ≤ 4294967296) : Ct Tryz.prog 203 [s.val] Mo.tt (s.own 9) (X := Sv Str) (fun q => q.val) (fun q => q.l = Go.S.compactS s.l) (fun _ => Mo.tt) (fun q => q.own 9) :=
  Ct.compact (entry_of Tryz.func203 rfl (by kernel_rfl)) (fun blk off cap ss w hH hb hs => Tryz.slices_Compact_string blk off cap ss w hH hb hs) (fun p cap w => Tryz.slices_Compact_string_empty p cap w) s 9 hb
theorem index_Conflicts_ct (l_0 : Sv IndexEntry) {r : List Str} (hS : Sh.index_Conflicts l_0.l = some r) :
 Ct Tryz.prog 119 [l_0.val] l_0.ok (Ow.emp) (X := Sv Str) (fun x => x.val) (fun x => r = x.l) (fun x => x.ok) (fun x => Ow.emp) := by
 refine Zo Tryz.func119 Tryz.ntmps119 fun c => ?_
 unfold Sh.index_Conflicts at hS
 refine Zq (Zr ?_)
 refine Zy ?_
 refine Zq (Zr ?_)
 refine Zy ?_
 refine Zq (Zq (Zr ?_))
 refine Zm ?_
 refine Zu (q_ln (s := l_0) Tryz.underlying25 rfl) ?_
 refine Zy ?_
 refine Zb ?_
 refine VC.iter (S := Int) (fun (x8_1 : Int) => x8_1) (fun (x8_1 : Int) => [(3, .slice none 0 0), (6, l_0.val), (7, i64 (l_0.l.length : Int)), (8, i64 x8_1)]) (fun (x8_1 : Int) => Mo.tt) (fun (x8_1 : Int) => Ow.emp) 0 [3, 6, 7, 8] hS rfl ?_
 clear hS
 rintro x8_1 m1 y1 hS hK1
 refine Zq (Zr ?_)
 refine Zu (q_lss rfl rfl) ?_
 refine Zl ?_
 refine Zq ?_
 refine Zc hS (fun h9 hS => ?_) (fun h9 hS => ?_)
 ·
  refine Zk ?_
  refine Zq (Zb (Zq (Zr ?_)))
  obtain ⟨z10_2, nz10_2, hz10_2, hS⟩ := at_s hS
  refine Zu (q_ixm (s := l_0) Tryz.underlying25 gsz149 rfl rfl nz10_2 (lt_of_get nz10_2 hz10_2)) ?_
  refine Zu (q_els (s := l_0) gagg149 rfl rfl hz10_2) ?_
  refine VL.alloc (cs := [str [], i64 0, i64 0, str [], i64 0, i64 0]) (by kernel_rfl) (by decide) fun b5_3 => ?_
  refine Zv (vc := [str z10_2.path, i64 z10_2.stage, i64 z10_2.mode, str z10_2.data, i64 z10_2.time, i64 z10_2.size]) (cs' := [str z10_2.path, i64 z10_2.stage, i64 z10_2.mode, str z10_2.data, i64 z10_2.time, i64 z10_2.size]) rfl gsz149 ?_
  refine Zl ?_
  refine Zq (Zr ?_)
  refine Zu (q_field gfa149_1 rfl) ?_
  refine Zu (q_fe gone3 rfl rfl) ?_
  refine Zu (q_neq rfl rfl) ?_
  refine Zl ?_
  refine Zcn hS (fun h14 hS => ?_) (fun h14 hS => ?_)
  ·
   cases hS
  refine Zk ?_
  refine VC.keep (ρ' := [(3, .slice none 0 0), (6, l_0.val), (7, i64 (l_0.l.length : Int)), (8, i64 x8_1)]) [3, 6, 7, 8] rfl ?_
  refine Zr ?_
  obtain ⟨b20, hS⟩ := gd_s hS
  refine Zu (q_add rfl rfl b20) ?_
  refine Zm ?_
  refine VL.rnd (x8_1 + 1) [3, 6, 7, 8] (fun _ _ h => h) (go2 hS hK1) rfl
 replace hS := up2 hS hK1
 refine Zx ?_
 refine Zq (Zr ?_)
 refine Zm ?_
 refine VL.nilO (⟨none, 0, []⟩ : Sv Str) 9 ⟨rfl, rfl⟩ ?_
 obtain ⟨b22, hS⟩ := gd_s hS
 refine VL.callO (sort202_ct (⟨none, 0, []⟩ : Sv Str) b22) rfl (by decide) ?_
 rintro w22_4 ⟨hw22_4, vw22_4⟩
 try dsimp only
 replace hS := lt_to hw22_4 hS
 refine Zl ?_
 refine Zq (Zr ?_)
 refine Zm ?_
 refine VL.nilO (⟨none, 0, []⟩ : Sv Str) 9 ⟨rfl, rfl⟩ ?_
 obtain ⟨b24, hS⟩ := gd_s hS
 refine VL.callO (compact203_ct (⟨none, 0, []⟩ : Sv Str) b24) rfl (by decide) ?_
 rintro w24_6 hw24_6
 try dsimp only
 replace hS := lt_to hw24_6 hS
 refine VL.shut w24_6 9 (fun _ _ _ _ => trivial) ?_
 obtain ⟨y25_8, ey25_8, hS⟩ := bd_s hS
 refine VL.callF (slices_Clip_string_string_ct w24_6 ey25_8) rfl (by decide) ?_
 rintro q25_8_0 rfl
 try dsimp only
 refine Zy ?_
 refine VC.keep (ρ' := [(2, q25_8_0.val)]) [2] rfl ?_
 cases hS
 exact VC.ret (fin1 (.inr rfl) rfl rfl q25_8_0 rfl rfl (by (try dsimp only); exact InM.out) (fun _ _ => trivial))
theorem state_has_ct (s_0 : StateState) (id_1 : Int) {r : Bool} (hS : Sh.state_has s_0.pl id_1 = some r) :
 Ct Tryz.prog 267 [.agg (zStateState s_0).toArray, i64 id_1] (s_0.now_work.ok.and (s_0.now_index.ok.and (s_0.now_refs.ok.and (s_0.now_seq_doing.ok.and (s_0.now_seq_todo.ok.and (s_0.now_seq_index.ok.and (s_0.now_seq_work.ok.and (s_0.now_stash.ok.and (s_0.commits.ok.and (s_0.log_back.ok.and s_0.log_forth.ok)))))))))) (Ow.emp) (X := Unit) (fun _ => .bool r) (fun _ => True) (fun _ => Mo.tt) (fun _ => Ow.emp) := by
 refine Zo Tryz.func267 Tryz.ntmps267 fun c => ?_
 unfold Sh.state_has at hS
 refine Zq (Zr ?_)
 refine VL.box (cs := (zStateState s_0)) rfl rfl (by decide) fun b2_1 => ?_
 refine Zy ?_
 refine Zq (Zr ?_)
 refine Zm ?_
 refine Zu (q_geq rfl rfl) ?_
 refine Zm ?_
 refine Zsp 7 hS (fun h7 hS => ?_) (fun h7 hS => ?_)
 ·
  refine Zg ?_
  refine Zh (q_field gfa41_1 rfl) ?_
  refine Zh (q_fe gone36 rfl rfl) ?_
  refine Zh (q_lnm StateCommit.pl (s := s_0.commits) Tryz.underlying36 rfl) ?_
  refine Zh (q_leq rfl rfl) ?_
  refine Zy ?_
  refine VC.keep (ρ' := [(4, .bool (decide (id_1 ≤ ((s_0.commits.l.map StateCommit.pl).length : Int))))]) [4] rfl ?_
  cases hS
  exact Ze
 refine VL.skips 5 [12] (by kernel_rfl) ?_
 refine Zy ?_
 cases hS
 exact Ze
theorem state_Tree_ct (s_0 : StateState) (commit_1 : Int) {r : List FilesFile} (hS : Sh.state_Tree s_0.pl commit_1 = some r) :
 Ct Tryz.prog 196 [.agg (zStateState s_0).toArray, i64 commit_1] (s_0.now_work.ok.and (s_0.now_index.ok.and (s_0.now_refs.ok.and (s_0.now_seq_doing.ok.and (s_0.now_seq_todo.ok.and (s_0.now_seq_index.ok.and (s_0.now_seq_work.ok.and (s_0.now_stash.ok.and (s_0.commits.ok.and (s_0.log_back.ok.and s_0.log_forth.ok)))))))))) (Ow.emp) (X := Sv FilesFile) (fun x => x.val) (fun x => r = x.l) (fun x => x.ok) (fun x => Ow.emp) := by
 refine Zo Tryz.func196 Tryz.ntmps196 fun c => ?_
 unfold Sh.state_Tree at hS
 refine Zq (Zr ?_)
 refine VL.box (cs := (zStateState s_0)) rfl rfl (by decide) fun b2_1 => ?_
 refine Zy ?_
 refine Zq (Zq (Zr ?_))
 refine Zu (q_fes gagg41 rfl rfl) ?_
 refine Zm ?_
 obtain ⟨y7_2, ey7_2, hS⟩ := bd_s hS
 refine Zu (q_call (state_has_ct s_0 commit_1 ey7_2) rfl (fun _ _ => rfl)) ?_
 refine Zu (q_not rfl) ?_
 refine Zl ?_
 refine Zcb hS (fun h8 hS => ?_) (fun h8 hS => ?_)
 ·
  refine Zq (Zr ?_)
  refine Zy ?_
  cases hS
  exact VC.ret (fin1 (.inr rfl) rfl rfl ⟨none, 0, []⟩ rfl rfl (by (try dsimp only); exact InM.out) (fun _ _ => trivial))
 refine Zk ?_
 refine Zq (Zr ?_)
 refine Zu (q_field gfa41_1 rfl) ?_
 refine Zu (q_fe gone36 rfl rfl) ?_
 refine Zm ?_
 obtain ⟨b12, hS⟩ := gd_s hS
 refine Zu (q_sub rfl rfl b12) ?_
 obtain ⟨z13_3, nz13_3, hz13_3, hS⟩ := atm_s hS
 refine VL.deep z13_3.m hz13_3 (fun _ q => q) ?_
 refine Zu (q_ixm (s := s_0.commits) Tryz.underlying36 gsz58 rfl rfl nz13_3 (lt_of_get nz13_3 hz13_3)) ?_
 refine Zu (q_field gfa58_0 rfl) ?_
 refine Zu (q_elf (s := s_0.commits) gone24 rfl hz13_3 rfl) ?_
 obtain ⟨y16_4, ey16_4, hS⟩ := bd_s hS
 refine VL.callO (slices_Clone_files_Row_files_File_ct z13_3.tree ey16_4) rfl (by decide) ?_
 rintro q16_4_0 rfl
 try dsimp only
 refine VL.shut q16_4_0 75 (fun _ _ _ _ => trivial) ?_
 obtain ⟨y17_5, ey17_5, hS⟩ := bd_s hS
 refine VL.callF (slices_Clip_files_Row_files_File_ct q16_4_0 ey17_5) rfl (by decide) ?_
 rintro q17_5_0 rfl
 try dsimp only
 refine Zy ?_
 refine VC.keep (ρ' := [(4, q17_5_0.val)]) [4] rfl ?_
 cases hS
 exact VC.ret (fin1 (.inr rfl) rfl rfl q17_5_0 rfl rfl (by (try dsimp only); exact InM.out) (fun _ _ => trivial))
theorem repo_head_ct (s_0 : StateState) {r : List FilesFile} (hS : Sh.repo_head s_0.pl = some r) :
 Ct Tryz.prog 116 [.agg (zStateState s_0).toArray] (s_0.now_work.ok.and (s_0.now_index.ok.and (s_0.now_refs.ok.and (s_0.now_seq_doing.ok.and (s_0.now_seq_todo.ok.and (s_0.now_seq_index.ok.and (s_0.now_seq_work.ok.and (s_0.now_stash.ok.and (s_0.commits.ok.and (s_0.log_back.ok.and s_0.log_forth.ok)))))))))) (Ow.emp) (X := Sv FilesFile) (fun x => x.val) (fun x => r = x.l) (fun x => x.ok) (fun x => Ow.emp) := by
 refine Zo Tryz.func116 Tryz.ntmps116 fun c => ?_
 unfold Sh.repo_head at hS
 refine Zq (Zr ?_)
 refine VL.box (cs := (zStateState s_0)) rfl rfl (by decide) fun b1_1 => ?_
 refine Zy ?_
 refine Zq (Zr ?_)
 refine Zu (q_fes gagg41 rfl rfl) ?_
 refine Zu (q_field gfa41_0 rfl) ?_
 refine Zu (q_field gfa35_3 rfl) ?_
 refine Zu (q_field gfa28_1 rfl) ?_
 refine Zu (q_fe gone3 rfl rfl) ?_
 obtain ⟨y8_2, ey8_2, hS⟩ := bd_s hS
 refine VL.callF (state_Tree_ct s_0 s_0.now_head_commit ey8_2) rfl (by decide) ?_
 rintro q8_2_0 rfl
 try dsimp only
 refine Zy ?_
 cases hS
 exact VC.ret (fin1 (.inr rfl) rfl rfl q8_2_0 rfl rfl (by (try dsimp only); exact InM.out) (fun _ _ => trivial))
theorem slices_Equal_files_Row_files_File_ct (s1_0 : Sv FilesFile) (s2_1 : Sv FilesFile) {r : Bool} (hS : Sh.slices_Equal_files_Row_files_File s1_0.l s2_1.l = some r) :
 Ct Tryz.prog 72 [s1_0.val, s2_1.val] (s1_0.ok.and s2_1.ok) (Ow.emp) (X := Unit) (fun _ => .bool r) (fun _ => True) (fun _ => Mo.tt) (fun _ => Ow.emp) := by
 refine Zo Tryz.func72 Tryz.ntmps72 fun c => ?_
 unfold Sh.slices_Equal_files_Row_files_File at hS
 refine Zq (Zr ?_)
 refine Zy ?_
 refine Zq (Zq (Zr ?_))
 refine Zm ?_
 refine Zu (q_ln (s := s1_0) Tryz.underlying24 rfl) ?_
 refine Zm ?_
 refine Zu (q_ln (s := s2_1) Tryz.underlying24 rfl) ?_
 refine Zu (q_neq rfl rfl) ?_
 refine Zl ?_
 refine Zcn hS (fun h10 hS => ?_) (fun h10 hS => ?_)
 ·
  refine Zq (Zr ?_)
  refine Zy ?_
  cases hS
  exact Ze
 refine Zk ?_
 refine Zq (Zq (Zr ?_))
 refine Zm ?_
 refine Zu (q_ln (s := s1_0) Tryz.underlying24 rfl) ?_
 refine Zy ?_
 refine VC.keep (ρ' := [(0, s1_0.val), (1, s2_1.val), (12, i64 (s1_0.l.length : Int)), (13, i64 0)]) [0, 1, 12, 13] rfl ?_
 refine Zb ?_
 refine VC.iter (S := Int) (fun (x13_1 : Int) => x13_1) (fun (x13_1 : Int) => [(0, s1_0.val), (1, s2_1.val), (12, i64 (s1_0.l.length : Int)), (13, i64 x13_1)]) (fun (x13_1 : Int) => Mo.tt) (fun (x13_1 : Int) => Ow.emp) 0 [0, 1, 12, 13] hS rfl ?_
 clear hS
 rintro x13_1 m1 y1 hS hK1
 refine Zq (Zr ?_)
 refine Zu (q_lss rfl rfl) ?_
 refine Zl ?_
 refine Zq ?_
 refine Zc hS (fun h14 hS => ?_) (fun h14 hS => ?_)
 ·
  refine Zk ?_
  refine Zq (Zb (Zq (Zr ?_)))
  refine Zy ?_
  refine Zq ?_
  refine VC.draw ((List.range 9).map fun k => (k, true)) mixed (by kernel_rfl) (by kernel_rfl) (by kernel_rfl) ?_
  refine Zw rfl (q_move rfl) ?_
  refine Zw rfl (q_move rfl) ?_
  obtain ⟨z18_2, nz18_2, hz18_2, hS⟩ := at_s hS
  refine Zw rfl (q_ixm (s := s1_0) Tryz.underlying24 gsz75 rfl rfl nz18_2 (lt_of_get nz18_2 hz18_2)) ?_
  refine Zw rfl (q_els (s := s1_0) gagg75 rfl rfl hz18_2) ?_
  refine Zw rfl (q_move rfl) ?_
  refine Zw rfl (q_move rfl) ?_
  obtain ⟨z22_3, nz22_3, hz22_3, hS⟩ := at_s hS
  refine Zw rfl (q_ixm (s := s2_1) Tryz.underlying24 gsz75 rfl rfl nz22_3 (lt_of_get nz22_3 hz22_3)) ?_
  refine Zw rfl (q_els (s := s2_1) gagg75 rfl rfl hz22_3) ?_
  refine Zw rfl (q_stneq geqg75 (geqs75 z18_2.path z18_2.mode z18_2.data z22_3.path z22_3.mode z22_3.data) rfl rfl) ?_
  refine VD.to (fun _ _ h => h) ?_
  refine VC.keep (ρ' := [(0, s1_0.val), (1, s2_1.val), (12, i64 (s1_0.l.length : Int)), (13, i64 x13_1), (24, .bool (!decide (z18_2.path = z22_3.path ∧ z18_2.mode = z22_3.mode ∧ z18_2.data = z22_3.data)))]) [0, 1, 12, 13, 24] rfl ?_
  refine Zcn hS (fun h24 hS => ?_) (fun h24 hS => ?_)
  ·
   refine Zq (Zr ?_)
   refine Zy ?_
   replace hS := up2 hS hK1
   cases hS
   exact Ze
  refine Zk ?_
  refine Zr ?_
  obtain ⟨b25, hS⟩ := gd_s hS
  refine Zu (q_add rfl rfl b25) ?_
  refine Zm ?_
  refine VL.rnd (x13_1 + 1) [0, 1, 12, 13] (fun _ _ h => h) (go2 hS hK1) rfl
 replace hS := up2 hS hK1
 refine Zx ?_
 refine Zq (Zr ?_)
 refine Zy ?_
 cases hS
 exact Ze
theorem files_Row_Same_ct (r_0 : Sv FilesFile) (q_1 : Sv FilesFile) {r : Bool} (hS : Sh.files_Row_Same r_0.l q_1.l = some r) :
 Ct Tryz.prog 37 [r_0.val, q_1.val] (r_0.ok.and q_1.ok) (Ow.emp) (X := Unit) (fun _ => .bool r) (fun _ => True) (fun _ => Mo.tt) (fun _ => Ow.emp) := by
 refine Zo Tryz.func37 Tryz.ntmps37 fun c => ?_
 unfold Sh.files_Row_Same at hS
 refine Zq (Zr ?_)
 refine Zy ?_
 refine Zq (Zr ?_)
 refine Zy ?_
 obtain ⟨y7_1, ey7_1, hS⟩ := bd_s hS
 refine Zu (q_call (slices_Equal_files_Row_files_File_ct r_0 q_1 ey7_1) rfl (fun _ _ => rfl)) ?_
 refine Zy ?_
 cases hS
 exact Ze
theorem repo_find_1_ct (r_0 : NamesRef) (n_1 : Str) {r : Int} (hS : Sh.repo_find_1 r_0 n_1 = some r) :
 Ct Tryz.prog 279 [.agg #[str r_0.name, i64 r_0.commit], str n_1] Mo.tt (Ow.emp) (X := Unit) (fun _ => i64 r) (fun _ => True) (fun _ => Mo.tt) (fun _ => Ow.emp) := by
 refine Zo Tryz.func279 Tryz.ntmps279 fun c => ?_
 unfold Sh.repo_find_1 at hS
 refine Zq (Zr ?_)
 refine VL.box (cs := [str r_0.name, i64 r_0.commit]) rfl rfl (by decide) fun b2_1 => ?_
 refine Zy ?_
 refine Zq (Zr ?_)
 refine Zu (q_field gfa113_0 rfl) ?_
 refine Zu (q_fe gone9 rfl rfl) ?_
 refine Zm ?_
 obtain ⟨y8_2, ey8_2, hS⟩ := bd_s hS
 refine Zu (q_call (cmp_Compare_string_ct r_0.name n_1 ey8_2) rfl (fun _ _ => rfl)) ?_
 refine Zy ?_
 cases hS
 exact Ze
theorem slices_BinarySearchFunc_names_Ref_names_Ref_string_ct (x_0 : Sv NamesRef) (target_1 : Str) {r : Int × Bool} (hS : Sh.slices_BinarySearchFunc_names_Ref_names_Ref_string x_0.l target_1 = some r) :
 Ct Tryz.prog 278 [x_0.val, str target_1, .func (.func 279) #[] #[]] x_0.ok (Ow.emp) (X := Unit) (fun _ => .tuple #[i64 r.1, .bool r.2]) (fun _ => True) (fun _ => Mo.tt) (fun _ => Ow.emp) := by
 refine Zo Tryz.func278 Tryz.ntmps278 fun c => ?_
 unfold Sh.slices_BinarySearchFunc_names_Ref_names_Ref_string at hS
 refine Zq (Zr ?_)
 refine Zy ?_
 refine Zq (Zr ?_)
 refine Zm ?_
 refine Zu (q_ln (s := x_0) Tryz.underlying26 rfl) ?_
 refine Zy ?_
 refine Zq (Zr ?_)
 refine Zy ?_
 refine Zq (Zb ?_)
 refine VC.iter (S := Int × Int) (fun sg => (sg.1, sg.2)) (fun sg => [(0, x_0.val), (1, str target_1), (2, .func (.func 279) #[] #[]), (8, i64 (x_0.l.length : Int)), (9, i64 sg.1), (10, i64 sg.2)]) (fun sg => Mo.tt) (fun sg => Ow.emp) (0, (x_0.l.length : Int)) [0, 1, 2, 8, 9, 10] hS rfl ?_
 clear hS
 rintro ⟨i9_1, j10_2⟩ m1 y1 hS hK1
 refine Zq (Zq (Zr ?_))
 refine Zy ?_
 refine Zu (q_lss rfl rfl) ?_
 refine Zl ?_
 refine Zc hS (fun h17 hS => ?_) (fun h17 hS => ?_)
 ·
  refine Zk ?_
  refine Zb (Zq (Zr ?_))
  refine Zy ?_
  obtain ⟨b20, hS⟩ := gd_s hS
  refine Zu (q_add rfl rfl b20) ?_
  refine Zu (q_convW Tryz.underlying3 Tryz.underlying228 rfl) ?_
  refine Zu (q_shr rfl rfl (by decide)) ?_
  refine Zu (q_convW Tryz.underlying228 Tryz.underlying3 rfl) ?_
  refine Zy ?_
  refine VC.keep (ρ' := [(0, x_0.val), (1, str target_1), (2, .func (.func 279) #[] #[]), (8, i64 (x_0.l.length : Int)), (9, i64 i9_1), (10, i64 j10_2), (11, i64 (IntKind.wrap .i64 (sHr .u64 (IntKind.wrap .u64 (i9_1 + j10_2)) 1)))]) [0, 1, 2, 8, 9, 10, 11] rfl ?_
  refine Zq (Zr ?_)
  refine Zy ?_
  obtain ⟨z27_3, nz27_3, hz27_3, hS⟩ := at_s hS
  refine Zu (q_ixm (s := x_0) Tryz.underlying26 gsz113 rfl rfl nz27_3 (lt_of_get nz27_3 hz27_3)) ?_
  refine Zu (q_els (s := x_0) gagg113 rfl rfl hz27_3) ?_
  refine Zm ?_
  obtain ⟨y30_4, ey30_4, hS⟩ := bd_s hS
  refine Zu (q_callV (repo_find_1_ct z27_3 target_1 ey30_4) rfl rfl (fun _ _ => rfl)) ?_
  refine Zu (q_lss rfl rfl) ?_
  refine Zl ?_
  refine VC.keep (ρ' := [(0, x_0.val), (1, str target_1), (2, .func (.func 279) #[] #[]), (8, i64 (x_0.l.length : Int)), (9, i64 i9_1), (10, i64 j10_2), (11, i64 (IntKind.wrap .i64 (sHr .u64 (IntKind.wrap .u64 (i9_1 + j10_2)) 1))), (31, .bool (decide (y30_4 < 0)))]) [0, 1, 2, 8, 9, 10, 11, 31] rfl ?_
  refine Zc hS (fun h31 hS => ?_) (fun h31 hS => ?_)
  ·
   refine Zr ?_
   refine Zm ?_
   obtain ⟨b33, hS⟩ := gd_s hS
   refine Zu (q_add rfl rfl b33) ?_
   refine Za ?_
   refine VL.rnd (((IntKind.wrap .i64 (sHr .u64 (IntKind.wrap .u64 (i9_1 + j10_2)) 1)) + 1), j10_2) [0, 1, 2, 8, 9, 10] (fun _ _ h => h) (go2 hS hK1) rfl
  refine Zr ?_
  refine Zy ?_
  refine VL.rnd (i9_1, (IntKind.wrap .i64 (sHr .u64 (IntKind.wrap .u64 (i9_1 + j10_2)) 1))) [0, 1, 2, 8, 9, 10] (fun _ _ h => h) (go2 hS hK1) rfl
 replace hS := up2 hS hK1
 refine Zx ?_
 refine Zq (Zr ?_)
 refine Zy ?_
 refine Zu (q_lss rfl rfl) ?_
 refine Zm ?_
 refine Zsp 39 hS (fun h39 hS => ?_) (fun h39 hS => ?_)
 ·
  refine Zy ?_
  obtain ⟨z43_5, nz43_5, hz43_5, hS⟩ := at_s hS
  refine Zh (q_ixm (s := x_0) Tryz.underlying26 gsz113 rfl rfl nz43_5 (lt_of_get nz43_5 hz43_5)) ?_
  refine Zh (q_els (s := x_0) gagg113 rfl rfl hz43_5) ?_
  refine Zg ?_
  obtain ⟨y46_6, ey46_6, hS⟩ := bd_s hS
  refine Zh (q_callV (repo_find_1_ct z43_5 target_1 ey46_6) rfl rfl (fun _ _ => rfl)) ?_
  refine Zh (q_eql rfl rfl) ?_
  refine Zy ?_
  refine VC.keep (ρ' := [(6, i64 i9_1), (7, .bool (decide (y46_6 = 0)))]) [6, 7] rfl ?_
  cases hS
  exact VC.ret (fin2 (.inr rfl) rfl rfl rfl () rfl trivial (fun _ _ => trivial) (fun _ _ => trivial))
 refine VL.skips 8 [47] (by kernel_rfl) ?_
 refine Zy ?_
 refine VC.keep (ρ' := [(6, i64 i9_1), (7, .bool false)]) [6, 7] rfl ?_
 cases hS
 exact VC.ret (fin2 (.inr rfl) rfl rfl rfl () rfl trivial (fun _ _ => trivial) (fun _ _ => trivial))
theorem repo_find_ct (s_0 : StateState) (name_1 : Str) {r : Int × Bool} (hS : Sh.repo_find s_0.pl name_1 = some r) :
 Ct Tryz.prog 215 [.agg (zStateState s_0).toArray, str name_1] (s_0.now_work.ok.and (s_0.now_index.ok.and (s_0.now_refs.ok.and (s_0.now_seq_doing.ok.and (s_0.now_seq_todo.ok.and (s_0.now_seq_index.ok.and (s_0.now_seq_work.ok.and (s_0.now_stash.ok.and (s_0.commits.ok.and (s_0.log_back.ok.and s_0.log_forth.ok)))))))))) (Ow.emp) (X := Unit) (fun _ => .tuple #[i64 r.1, .bool r.2]) (fun _ => True) (fun _ => Mo.tt) (fun _ => Ow.emp) := by
 refine Zo Tryz.func215 Tryz.ntmps215 fun c => ?_
 unfold Sh.repo_find at hS
 refine Zq (Zr ?_)
 refine VL.box (cs := (zStateState s_0)) rfl rfl (by decide) fun b2_1 => ?_
 refine Zy ?_
 refine Zq (Zr ?_)
 refine Zu (q_field gfa41_0 rfl) ?_
 refine Zu (q_field gfa35_2 rfl) ?_
 refine Zu (q_fe gone26 rfl rfl) ?_
 refine Zm ?_
 obtain ⟨y10_2, ey10_2, hS⟩ := bd_s hS
 refine Zu (q_call (slices_BinarySearchFunc_names_Ref_names_Ref_string_ct s_0.now_refs name_1 ey10_2) rfl (fun _ _ => rfl)) ?_
 refine Zu (q_extract rfl rfl) ?_
 refine Zu (q_extract rfl rfl) ?_
 refine Zy ?_
 refine VC.keep (ρ' := [(4, i64 y10_2.1), (5, .bool y10_2.2)]) [4, 5] rfl ?_
 cases hS
 exact VC.ret (fin2 (.inr rfl) rfl rfl rfl () rfl trivial (fun _ _ => trivial) (fun _ _ => trivial))
theorem repo_branches_ct (s_0 : StateState) {r : Bool} (hS : Sh.repo_branches s_0.pl = some r) :
 Ct Tryz.prog 221 [.agg (zStateState s_0).toArray] (s_0.now_work.ok.and (s_0.now_index.ok.and (s_0.now_refs.ok.and (s_0.now_seq_doing.ok.and (s_0.now_seq_todo.ok.and (s_0.now_seq_index.ok.and (s_0.now_seq_work.ok.and (s_0.now_stash.ok.and (s_0.commits.ok.and (s_0.log_back.ok.and s_0.log_forth.ok)))))))))) (Ow.emp) (X := Unit) (fun _ => .bool r) (fun _ => True) (fun _ => Mo.tt) (fun _ => Ow.emp) := by
 refine Zo Tryz.func221 Tryz.ntmps221 fun c => ?_
 unfold Sh.repo_branches at hS
 refine Zq (Zr ?_)
 refine VL.box (cs := (zStateState s_0)) rfl rfl (by decide) fun b1_1 => ?_
 refine Zy ?_
 refine Zq (Zr ?_)
 refine Zu (q_fes gagg41 rfl rfl) ?_
 refine Zu (q_field gfa41_0 rfl) ?_
 refine Zu (q_field gfa35_3 rfl) ?_
 refine Zu (q_field gfa28_0 rfl) ?_
 refine Zu (q_fe gone9 rfl rfl) ?_
 obtain ⟨y11_2, ey11_2, hS⟩ := bd_s hS
 refine Zu (q_call (repo_find_ct s_0 s_0.now_head_branch ey11_2) rfl (fun _ _ => rfl)) ?_
 refine Zm ?_
 refine Zu (q_extract rfl rfl) ?_
 refine Zu (q_extract rfl rfl) ?_
 refine Zy ?_
 refine VC.keep (ρ' := [(1, ptr b1_1 0), (4, .bool y11_2.2)]) [1, 4] rfl ?_
 refine Zq (Zr ?_)
 refine Zy ?_
 refine Zspb 15 hS (fun h15 hS => ?_) (fun h15 hS => ?_)
 ·
  refine VL.skips 5 [20] (by kernel_rfl) ?_
  refine Zt ?_
  refine Zm ?_
  refine VL.skips 5 [27] (by kernel_rfl) ?_
  refine Zy ?_
  cases hS
  exact Ze
 refine Zh (q_field gfa41_0 rfl) ?_
 refine Zh (q_field gfa35_3 rfl) ?_
 refine Zh (q_field gfa28_0 rfl) ?_
 refine Zh (q_fe gone9 rfl rfl) ?_
 refine Zh (q_seq rfl rfl) ?_
 refine Zy ?_
 refine Zsp 22 hS (fun h22 hS => ?_) (fun h22 hS => ?_)
 ·
  refine VL.skips 5 [27] (by kernel_rfl) ?_
  refine Zy ?_
  refine VC.keep (ρ' := [(2, .bool true)]) [2] rfl ?_
  cases hS
  exact Ze
 refine Zh (q_field gfa41_0 rfl) ?_
 refine Zh (q_field gfa35_2 rfl) ?_
 refine Zh (q_fe gone26 rfl rfl) ?_
 refine Zh (q_ln (s := s_0.now_refs) Tryz.underlying26 rfl) ?_
 refine Zh (q_lss rfl rfl) ?_
 refine Zy ?_
 refine VC.keep (ρ' := [(2, .bool (decide ((s_0.now_refs.l.length : Int) < 64)))]) [2] rfl ?_
 cases hS
 exact Ze
theorem repo_room_ct (s_0 : StateState) {r : Bool} (hS : Sh.repo_room s_0.pl = some r) :
 Ct Tryz.prog 204 [.agg (zStateState s_0).toArray] (s_0.now_work.ok.and (s_0.now_index.ok.and (s_0.now_refs.ok.and (s_0.now_seq_doing.ok.and (s_0.now_seq_todo.ok.and (s_0.now_seq_index.ok.and (s_0.now_seq_work.ok.and (s_0.now_stash.ok.and (s_0.commits.ok.and (s_0.log_back.ok.and s_0.log_forth.ok)))))))))) (Ow.emp) (X := Unit) (fun _ => .bool r) (fun _ => True) (fun _ => Mo.tt) (fun _ => Ow.emp) := by
 refine Zo Tryz.func204 Tryz.ntmps204 fun c => ?_
 unfold Sh.repo_room at hS
 refine Zq (Zr ?_)
 refine VL.box (cs := (zStateState s_0)) rfl rfl (by decide) fun b1_1 => ?_
 refine Zy ?_
 refine Zq (Zr ?_)
 refine Zu (q_field gfa41_1 rfl) ?_
 refine Zu (q_fe gone36 rfl rfl) ?_
 refine Zu (q_lnm StateCommit.pl (s := s_0.commits) Tryz.underlying36 rfl) ?_
 refine Zu (q_lss rfl rfl) ?_
 refine Zm ?_
 refine Zsp 7 hS (fun h7 hS => ?_) (fun h7 hS => ?_)
 ·
  refine Zh (q_fes gagg41 rfl rfl) ?_
  obtain ⟨y9_2, ey9_2, hS⟩ := bd_s hS
  refine Zh (q_call (repo_branches_ct s_0 ey9_2) rfl (fun _ _ => rfl)) ?_
  refine Zy ?_
  refine VC.keep (ρ' := [(2, .bool y9_2)]) [2] rfl ?_
  cases hS
  exact Ze
 refine Zy ?_
 refine VC.keep (ρ' := [(2, .bool false)]) [2] rfl ?_
 cases hS
 exact Ze
theorem repo_parents_1_ct (n_0 : Int) {r : Bool} (hS : Sh.repo_parents_1 n_0 = some r) :
 Ct Tryz.prog 272 [i64 n_0] Mo.tt (Ow.emp) (X := Unit) (fun _ => .bool r) (fun _ => True) (fun _ => Mo.tt) (fun _ => Ow.emp) := by
 refine Zo Tryz.func272 Tryz.ntmps272 fun c => ?_
 unfold Sh.repo_parents_1 at hS
 refine Zq (Zr ?_)
 refine Zy ?_
 refine Zq (Zr ?_)
 refine Zm ?_
 refine Zu (q_lss rfl rfl) ?_
 refine Zy ?_
 cases hS
 exact Ze
theorem slices_IndexFunc_int_int_ct (s_0 : Sv Int) {r : Int} (hS : Sh.slices_IndexFunc_int_int s_0.l = some r) :
 Ct Tryz.prog 318 [s_0.val, .func (.func 272) #[] #[]] s_0.ok (Ow.emp) (X := Unit) (fun _ => i64 r) (fun _ => True) (fun _ => Mo.tt) (fun _ => Ow.emp) := by
 refine Zo Tryz.func318 Tryz.ntmps318 fun c => ?_
 unfold Sh.slices_IndexFunc_int_int at hS
 refine Zq (Zr ?_)
 refine Zy ?_
 refine Zq (Zq (Zr ?_))
 refine Zm ?_
 refine Zu (q_ln (s := s_0) Tryz.underlying56 rfl) ?_
 refine Zy ?_
 refine Zb ?_
 refine VC.iter (S := Int) (fun (x8_1 : Int) => x8_1) (fun (x8_1 : Int) => [(0, s_0.val), (1, .func (.func 272) #[] #[]), (7, i64 (s_0.l.length : Int)), (8, i64 x8_1)]) (fun (x8_1 : Int) => Mo.tt) (fun (x8_1 : Int) => Ow.emp) 0 [0, 1, 7, 8] hS rfl ?_
 clear hS
 rintro x8_1 m1 y1 hS hK1
 refine Zq (Zr ?_)
 refine Zu (q_lss rfl rfl) ?_
 refine Zl ?_
 refine Zq ?_
 refine Zc hS (fun h9 hS => ?_) (fun h9 hS => ?_)
 ·
  refine Zk ?_
  refine Zq (Zb (Zq (Zr ?_)))
  refine Zy ?_
  refine Zq (Zr ?_)
  refine Zy ?_
  obtain ⟨z14_2, nz14_2, hz14_2, hS⟩ := at_s hS
  refine Zu (q_ixm (s := s_0) Tryz.underlying56 gsz3 rfl rfl nz14_2 (lt_of_get nz14_2 hz14_2)) ?_
  refine Zu (q_el (s := s_0) gone3 rfl hz14_2 rfl) ?_
  obtain ⟨y16_3, ey16_3, hS⟩ := bd_s hS
  refine Zu (q_callV (repo_parents_1_ct z14_2 ey16_3) rfl rfl (fun _ _ => rfl)) ?_
  refine Zl ?_
  refine VC.keep (ρ' := [(0, s_0.val), (1, .func (.func 272) #[] #[]), (7, i64 (s_0.l.length : Int)), (8, i64 x8_1), (5, i64 x8_1), (16, .bool y16_3)]) [0, 1, 7, 8, 5, 16] rfl ?_
  refine Zcb hS (fun h16 hS => ?_) (fun h16 hS => ?_)
  ·
   refine Zq (Zr ?_)
   refine Zy ?_
   replace hS := up2 hS hK1
   cases hS
   exact Ze
  refine Zk ?_
  refine Zr ?_
  obtain ⟨b18, hS⟩ := gd_s hS
  refine Zu (q_add rfl rfl b18) ?_
  refine Zm ?_
  refine VL.rnd (x8_1 + 1) [0, 1, 7, 8] (fun _ _ h => h) (go2 hS hK1) rfl
 replace hS := up2 hS hK1
 refine Zx ?_
 refine Zq (Zr ?_)
 refine Zy ?_
 cases hS
 exact Ze
theorem slices_DeleteFunc_int_int_ct (s_0 : Sv Int) {r : List Int} (hS : Sh.slices_DeleteFunc_int_int s_0.l = some r) :
 Ct Tryz.prog 271 [s_0.val, .func (.func 272) #[] #[]] Mo.tt (Sv.own s_0 3) (X := Sv Int) (fun x => x.val) (fun x => r = x.l) (fun x => Mo.tt) (fun x => Sv.own x 3) := by
 refine Zo Tryz.func271 Tryz.ntmps271 fun c => ?_
 unfold Sh.slices_DeleteFunc_int_int at hS
 refine Zq (Zr ?_)
 refine Zy ?_
 refine Zq (Zr ?_)
 refine Zy ?_
 obtain ⟨y10_1, ey10_1, hS⟩ := bd_s hS
 refine Zu (q_callR (slices_IndexFunc_int_int_ct s_0 ey10_1) rfl (fun _ _ => rfl)) ?_
 refine Zy ?_
 refine Zq (Zq (Zr ?_))
 refine Zm ?_
 refine Zu (q_eql rfl rfl) ?_
 refine Zl ?_
 refine Zc hS (fun h12 hS => ?_) (fun h12 hS => ?_)
 ·
  refine Zq (Zr ?_)
  refine Zy ?_
  cases hS
  exact VC.ret (fin1 (.inr rfl) rfl rfl s_0 rfl rfl (by (try dsimp only); exact InM.out) (by (try dsimp only); exact EntO.out))
 refine Zk ?_
 refine Zq (Zq (Zr ?_))
 refine Zm ?_
 obtain ⟨b15, hS⟩ := gd_s hS
 refine Zu (q_add rfl rfl b15) ?_
 refine Zy ?_
 refine VC.keep (ρ' := [(0, s_0.val), (1, .func (.func 272) #[] #[]), (5, i64 y10_1), (6, i64 (y10_1 + 1))]) [0, 1, 5, 6] rfl ?_
 refine Zb ?_
 refine VC.iter (S := Sv Int × Int × Int) (fun sg => (sg.1.l, sg.2.1, sg.2.2)) (fun sg => [(0, sg.1.val), (1, .func (.func 272) #[] #[]), (5, i64 sg.2.1), (6, i64 sg.2.2)]) (fun sg => Mo.tt) (fun sg => Ow.star (Sv.own sg.1 3) (Ow.emp)) (s_0, y10_1, (y10_1 + 1)) [0, 1, 5, 6] hS rfl ?_
 clear hS
 rintro ⟨s0_2, i5_3, j6_4⟩ m1 y1 hS hK1
 refine Zq (Zq (Zr ?_))
 refine Zy ?_
 refine Zu (q_ln (s := s0_2) Tryz.underlying56 rfl) ?_
 refine Zu (q_lss rfl rfl) ?_
 refine Zl ?_
 refine Zc hS (fun h19 hS => ?_) (fun h19 hS => ?_)
 ·
  refine Zk ?_
  refine VC.cutJ (S := Sv Int × Int) (fun sg => (sg.1.l, sg.2)) (fun sg => [(0, sg.1.val), (1, .func (.func 272) #[] #[]), (5, i64 sg.2), (6, i64 j6_4)]) (fun sg => Mo.tt) (fun sg => Ow.star (Sv.own sg.1 3) (Ow.emp)) hS ?_ ?_
  ·
   clear hS
   intro k7 hS
   refine Zb (Zq (Zr ?_))
   refine Zy ?_
   obtain ⟨z24_8, nz24_8, hz24_8, hS⟩ := at_s hS
   refine Zu (q_ixo (s := s0_2) Tryz.underlying56 gsz3 rfl rfl nz24_8 (lt_of_get nz24_8 hz24_8)) ?_
   refine Zu (q_elo (s := s0_2) 3 gone3 rfl hz24_8 rfl) ?_
   refine Zy ?_
   refine VC.keep (ρ' := [(0, s0_2.val), (1, .func (.func 272) #[] #[]), (5, i64 i5_3), (6, i64 j6_4), (7, i64 z24_8)]) [0, 1, 5, 6, 7] rfl ?_
   refine Zq (Zr ?_)
   refine Zy ?_
   obtain ⟨y28_9, ey28_9, hS⟩ := bd_s hS
   refine Zu (q_callV (repo_parents_1_ct z24_8 ey28_9) rfl rfl (fun _ _ => rfl)) ?_
   refine Zu (q_not rfl) ?_
   refine Zl ?_
   refine Zcb hS (fun h29 hS => ?_) (fun h29 hS => ?_)
   ·
    refine Zq (Zr ?_)
    refine Zy ?_
    obtain ⟨z33_10, nz33_10, hz33_10, hS⟩ := at_s hS
    refine Zu (q_ixo (s := s0_2) Tryz.underlying56 gsz3 rfl rfl nz33_10 (lt_of_get nz33_10 hz33_10)) ?_
    refine VL.storeE (s := s0_2) (T := 3) (j := 0) (vc := [i64 z24_8]) (z24_8 : Int) (by decide) rfl rfl hz33_10 rfl gsz3 rfl rfl (Nat.le_of_ble_eq_true rfl) rfl (fun w11 hw11 haw11 hcw11 hvw11 hbw11 how11 => ?_)
    rw [← hvw11]
    replace hS := lt_to hw11 hS
    refine Zl ?_
    refine VC.keep (ρ' := [(0, w11.val), (1, .func (.func 272) #[] #[]), (5, i64 i5_3), (6, i64 j6_4)]) [0, 1, 5, 6] rfl ?_
    refine Zr ?_
    refine Zm ?_
    obtain ⟨b35, hS⟩ := gd_s hS
    refine Zu (q_add rfl rfl b35) ?_
    refine Za ?_
    refine VL.mt (w11, (i5_3 + 1)) [0, 1, 5, 6] (fun _ _ h => h) hS rfl
   refine VC.skip_mt (s0_2, i5_3) [0, 1, 5, 6] (fun _ _ h => h) hS rfl
  clear hS
  rintro ⟨s0_5, i5_6⟩ hS
  refine Zr ?_
  refine Zm ?_
  obtain ⟨b21, hS⟩ := gd_s hS
  refine Zu (q_add rfl rfl b21) ?_
  refine Za ?_
  refine VL.rnd (s0_5, i5_6, (j6_4 + 1)) [0, 1, 5, 6] (fun _ _ h => h) (go2 hS hK1) rfl
 replace hS := up2 hS hK1
 refine Zx ?_
 refine Zq (Zr ?_)
 refine Zy ?_
 obtain ⟨b38, hS⟩ := gd_s hS
 refine VL.fits (s := s0_2) (e := 3) Fo.out fun f38_13 => ?_
 refine Zu (q_subv (s := s0_2) Tryz.underlying56 gsz3 rfl rfl b38.1 b38.2 f38_13) ?_
 refine VL.clrN (s := s0_2) (i := i5_3.toNat) (i64 0) Tryz.underlying56 gzv3 rfl rfl rfl (by have := b38; dsimp only at this ⊢; omega) Fo.out fun ss3_14 hss3_14 vss3_14 => ?_
 replace hS := lt_to hss3_14 hS
 refine Zl ?_
 refine VC.keep (ρ' := [(0, s0_2.val), (5, i64 i5_3)]) [0, 5] rfl ?_
 refine Zq (Zr ?_)
 refine Zy ?_
 refine Zu (q_cutO (s := s0_2) (q := ss3_14) Tryz.underlying56 gsz3 rfl rfl b38.1 b38.2 f38_13 vss3_14) ?_
 refine Zy ?_
 cases hS
 exact VC.ret (fin1 (.inr rfl) rfl rfl ss3_14 rfl rfl (by (try dsimp only); exact InM.out) (by (try dsimp only); exact EntO.out))
theorem repo_parents_ct (s_0 : StateState) (other_1 : Int) {r : List Int} (hS : Sh.repo_parents s_0.pl other_1 = some r) :
 Ct Tryz.prog 206 [.agg (zStateState s_0).toArray, i64 other_1] (s_0.now_work.ok.and (s_0.now_index.ok.and (s_0.now_refs.ok.and (s_0.now_seq_doing.ok.and (s_0.now_seq_todo.ok.and (s_0.now_seq_index.ok.and (s_0.now_seq_work.ok.and (s_0.now_stash.ok.and (s_0.commits.ok.and (s_0.log_back.ok.and s_0.log_forth.ok)))))))))) (Ow.emp) (X := Sv Int) (fun x => x.val) (fun x => r = x.l) (fun x => Mo.tt) (fun x => Sv.own x 3) := by
 refine Zo Tryz.func206 Tryz.ntmps206 fun c => ?_
 unfold Sh.repo_parents at hS
 refine Zq (Zr ?_)
 refine VL.box (cs := (zStateState s_0)) rfl rfl (by decide) fun b2_1 => ?_
 refine Zy ?_
 refine Zq (Zr ?_)
 refine Zu (q_field gfa41_0 rfl) ?_
 refine Zu (q_field gfa35_3 rfl) ?_
 refine Zu (q_field gfa28_1 rfl) ?_
 refine Zu (q_fe gone3 rfl rfl) ?_
 refine Zm ?_
 refine VL.litO (α := Int) (xs := [.tmp 8, .tmp 9]) (vs := [i64 s_0.now_head_commit, i64 other_1]) [s_0.now_head_commit, other_1] Tryz.underlying56 glit3 (by decide) rfl rfl rfl rfl (by decide) (by decide) (fun s10_2 hs10_2 => ?_) (by decide)
 replace hS := lt_to hs10_2 hS
 obtain ⟨y11_4, ey11_4, hS⟩ := bd_s hS
 refine VL.callO (slices_DeleteFunc_int_int_ct s10_2 ey11_4) rfl (by decide) ?_
 rintro q11_4_0 rfl
 try dsimp only
 refine Zy ?_
 refine VC.keep (ρ' := [(4, q11_4_0.val)]) [4] rfl ?_
 cases hS
 exact VC.ret (fin1 (.inr rfl) rfl rfl q11_4_0 rfl rfl (by (try dsimp only); exact InM.out) (by (try dsimp only); exact EntO.out))
theorem slices_Clone_state_Commit_state_Commit_ct (s_0 : Sv StateCommit) {r : List StateCommitP} (hS : Sh.slices_Clone_state_Commit_state_Commit (s_0.l.map StateCommit.pl) = some r) :
 Ct Tryz.prog 270 [s_0.val] s_0.ok (Ow.emp) (X := Sv StateCommit) (fun x => x.val) (fun x => r = (x.l.map StateCommit.pl)) (fun x => (MAl x.l)) (fun x => Sv.own x 58) := by
 refine Zo Tryz.func270 Tryz.ntmps270 fun c => ?_
 unfold Sh.slices_Clone_state_Commit_state_Commit at hS
 refine Zq (Zr ?_)
 refine Zy ?_
 refine Zq (Zq (Zr ?_))
 refine Zm ?_
 refine Zu (q_slnil (s := s_0) Tryz.underlying36 rfl) ?_
 refine Zl ?_
 refine VC.slnil (s := s_0) rfl (fun h4 => ?_) ?_
 ·
  have hS : (some []) = some r := by
    simp [lt, gd, h4] at hS ⊢
    try exact hS
  refine Zq (Zr ?_)
  refine Zy ?_
  refine VC.nilO (⟨none, 0, []⟩ : Sv StateCommit) 58 ⟨rfl, rfl⟩ ?_
  refine VC.maNil (s := (⟨none, 0, []⟩ : Sv StateCommit)) rfl ?_
  cases hS
  exact VC.ret (fin1 (.inr rfl) rfl rfl ⟨none, 0, []⟩ rfl rfl (by (try dsimp only); exact InM.out) (by (try dsimp only); exact EntO.out))
 refine Zk ?_
 refine Zq (Zr ?_)
 refine VL.lit0 (α := StateCommit) Tryz.underlying36 ghas58 (by decide) (fun s5_1 hs5_1 hcs5_1 => ?_)
 refine VL.nilO s5_1 58 ⟨hcs5_1, hs5_1⟩ ?_
 refine VL.maNil hs5_1 ?_
 replace hS := lt_to (congrArg (List.map StateCommit.pl) hs5_1) hS
 refine Zm ?_
 obtain ⟨b7, hS⟩ := gd_s hS
 refine VL.app (s := s5_1) (r := s_0) Tryz.underlying36 gapp58 (by decide) rfl Fo.out (ap1 (apm b7)) (ap2 (apm b7) (by decide)) (by decide) (fun s7_3 hs7_3 => ?_)
 replace hS := lt_to ((congrArg (List.map StateCommit.pl) hs7_3).trans List.map_append) hS
 refine VL.maApp hs7_3 ?_
 refine Zy ?_
 cases hS
 exact VC.ret (fin1 (.inr rfl) rfl rfl s7_3 rfl rfl (by (try dsimp only); exact InM.out) (by (try dsimp only); exact EntO.out))
theorem slices_Clone_names_Ref_names_Ref_ct (s_0 : Sv NamesRef) {r : List NamesRef} (hS : Sh.slices_Clone_names_Ref_names_Ref s_0.l = some r) :
 Ct Tryz.prog 214 [s_0.val] s_0.ok (Ow.emp) (X := Sv NamesRef) (fun x => x.val) (fun x => r = x.l) (fun x => Mo.tt) (fun x => Sv.own x 113) := by
 refine Zo Tryz.func214 Tryz.ntmps214 fun c => ?_
 unfold Sh.slices_Clone_names_Ref_names_Ref at hS
 refine Zq (Zr ?_)
 refine Zy ?_
 refine Zq (Zq (Zr ?_))
 refine Zm ?_
 refine Zu (q_slnil (s := s_0) Tryz.underlying26 rfl) ?_
 refine Zl ?_
 refine VC.slnil (s := s_0) rfl (fun h4 => ?_) ?_
 ·
  have hS : (some []) = some r := by
    simp [lt, gd, h4] at hS ⊢
    try exact hS
  refine Zq (Zr ?_)
  refine Zy ?_
  refine VC.nilO (⟨none, 0, []⟩ : Sv NamesRef) 113 ⟨rfl, rfl⟩ ?_
  cases hS
  exact VC.ret (fin1 (.inr rfl) rfl rfl ⟨none, 0, []⟩ rfl rfl (by (try dsimp only); exact InM.out) (by (try dsimp only); exact EntO.out))
 refine Zk ?_
 refine Zq (Zr ?_)
 refine VL.lit0 (α := NamesRef) Tryz.underlying26 ghas113 (by decide) (fun s5_1 hs5_1 hcs5_1 => ?_)
 refine VL.nilO s5_1 113 ⟨hcs5_1, hs5_1⟩ ?_
 replace hS := lt_to hs5_1 hS
 refine Zm ?_
 obtain ⟨b7, hS⟩ := gd_s hS
 refine VL.app (s := s5_1) (r := s_0) Tryz.underlying26 gapp113 (by decide) rfl Fo.out (ap1 b7) (ap2 b7 (by decide)) (by decide) (fun s7_3 hs7_3 => ?_)
 replace hS := lt_to hs7_3 hS
 refine Zy ?_
 cases hS
 exact VC.ret (fin1 (.inr rfl) rfl rfl s7_3 rfl rfl (by (try dsimp only); exact InM.out) (by (try dsimp only); exact EntO.out))
theorem insert113_ct (s v : Sv NamesRef) (i : Int) (hi : 0 ≤ i ∧ i ≤ (s.l.length : Int)) (hv : v.l ≠ []) (hb : s.l.length + v.l.length ≤ 4294967296) : Ct Tryz.prog 217 [s.val, i64 i, v.val] Mo.tt (Ow.star (s.own 113) (v.own 113)) (X := Sv NamesRef) (fun q => q.val) (fun q => q.l = s.l.take i.toNat ++ v.l ++ s.l.drop i.toNat) (fun _ => Mo.tt) (fun q => q.own 113) := by
 refine Zo Tryz.func217 Tryz.ntmps217 fun c => ?_
 have hvp : 0 < v.l.length := List.length_pos_iff.2 hv
 have hK : Dat.sz NamesRef = 2 := rfl
 refine Zq (Zr ?_)
 refine Zy ?_
 refine Zq (Zr ?_)
 refine Zy ?_
 refine VL.fits (s := s) (e := 113) Fo.out fun hf => ?_
 refine Zu (q_subv (s := s) Tryz.underlying26 gsz113 rfl rfl hi.1 hi.2 hf) ?_
 refine Zl ?_
 refine Zq (Zr ?_)
 refine Zm ?_
 refine Zu (q_ln (s := v) Tryz.underlying26 rfl) ?_
 refine Zy ?_
 refine Zq (Zq (Zr ?_))
 refine Zm ?_
 refine Zu (q_eql rfl rfl) ?_
 refine Zl ?_
 refine VC.cond_dec rfl (fun h16 => absurd h16 (by omega)) (fun h16 => ?_)
 refine Zk ?_
 refine Zq (Zr ?_)
 refine Zm ?_
 refine Zu (q_ln (s := s) Tryz.underlying26 rfl) ?_
 refine Zy ?_
 refine Zq (Zq (Zr ?_))
 refine Zy ?_
 refine Zu (q_eql rfl rfl) ?_
 refine Zl ?_
 refine VC.cond_dec rfl (fun h22 => ?_) (fun h22 => ?_)
 ·
  refine Zq (Zr ?_)
  refine Zy ?_
  refine VL.shut v 113 (fun _ _ _ _ => trivial) ?_
  refine VL.app2 (s := s) (r := v) Tryz.underlying26 Tryz.underlying26 gapp113 (by decide) rfl Fo.out (ap1 hb) (ap2 hb (by decide)) (by decide) (fun q hq => ?_)
  refine Zy ?_
  have e1 : i.toNat = s.l.length := by omega
  exact VC.ret (fin1 (.inr rfl) rfl rfl q rfl (by rw [hq, e1, List.take_length, List.drop_length, List.append_nil]) (fun _ _ => trivial) EntO.out)
 have hin : i < (s.l.length : Int) := by omega
 have hne : s.l ≠ [] := fun h => by rw [h] at hin; simp at hin; omega
 have hkq : (s.l.length : Int) + (v.l.length : Int) - i = ((s.l.length + v.l.length - i.toNat : Nat) : Int) := by omega
 have hLn : (s.l.take i.toNat ++ v.l ++ s.l.drop i.toNat).length = s.l.length + v.l.length := by simp only [List.length_append, List.length_take, List.length_drop]; omega
 have hfl : (s.l.take i.toNat ++ v.l ++ s.l.drop i.toNat).flatMap Dat.enc = (s.l.take i.toNat).flatMap Dat.enc ++ v.l.flatMap Dat.enc ++ (s.l.drop i.toNat).flatMap Dat.enc := by rw [List.flatMap_append, List.flatMap_append]
 have lA : ((s.l.take i.toNat).flatMap Dat.enc).length = i.toNat * 2 := by rw [enc_len, List.length_take, hK, Nat.min_eq_left (by omega)]
 have lV : (v.l.flatMap Dat.enc).length = v.l.length * 2 := by rw [enc_len, hK]
 have lS : ((s.l.drop i.toNat).flatMap Dat.enc).length = (s.l.length - i.toNat) * 2 := by rw [enc_len, List.length_drop, hK]
 refine Zk ?_
 refine Zq (Zq (Zr ?_))
 refine Zy ?_
 refine Zu (q_add rfl rfl ⟨by omega, by omega⟩) ?_
 refine Zm ?_
 refine Zu (q_capV (a0 := s.a) (L := s.l.length) (C := s.c) Tryz.underlying26 rfl) ?_
 refine Zu (q_gtr rfl rfl) ?_
 refine Zl ?_
 refine VC.cond_dec rfl (fun h31 => ?_) (fun h31 => ?_)
 ·
  refine VC.shut s 113 (fun _ _ _ _ => trivial) ?_
  refine VC.shut v 113 (fun _ _ _ _ => trivial) ?_
  refine Zq (Zr ?_)
  refine VL.factM (φ := s.a = some ⟨s.b, s.o, none⟩) (fun h m => (InM.out (X := s.ok) h m).2.2.1 hne) fun hsa => ?_
  refine VL.factM (φ := v.a = some ⟨v.b, v.o, none⟩) (fun h m => (InM.out (X := v.ok) h m).2.2.1 hv) fun hva => ?_
  refine Zy ?_
  refine Zu (q_toV (a0 := s.a) (L := s.l.length) (C := s.c) (K := 2) Tryz.underlying26 gsz113 rfl rfl hi.1 (by omega)) ?_
  refine Zy ?_
  refine Zu (q_add rfl rfl ⟨by omega, by omega⟩) ?_
  refine Zm ?_
  refine Zu (q_sub rfl rfl ⟨by omega, by omega⟩) ?_
  refine VL.setv 39 rfl (congrArg (Value.int .i64) hkq) ?_
  refine VL.appZg (s := s) (L := i.toNat) (kq := s.l.length + v.l.length - i.toNat) Tryz.underlying26 Tryz.underlying3 gapp113 (by decide) rfl hne (by omega) (by omega) (by omega) (by omega) (by decide) (by decide) fun g cs cp hcl hcp hcm hct => ?_
  rw [hK] at hcl hct
  rw [show i.toNat + (s.l.length + v.l.length - i.toNat) = s.l.length + v.l.length by omega] at hcp ⊢
  have hfit : ((s.l.take i.toNat).flatMap Dat.enc).length + (v.l.flatMap Dat.enc).length + ((s.l.drop i.toNat).flatMap Dat.enc).length ≤ cs.length := by
    rw [lA, lV, lS, hcl, ← Nat.add_mul, ← Nat.add_mul]; exact Nat.mul_le_mul_right _ (by omega)
  have hic := ins_cells1 (V := v.l.flatMap Dat.enc) (S := (s.l.drop i.toNat).flatMap Dat.enc) (by rw [lA]; exact hct) hfit
  rw [← hfl, lA, lV, lS] at hic
  refine Zy ?_
  refine Zq (Zr ?_)
  refine Zy ?_
  refine Zu (q_fromV (b := g) (o := 0) (L := s.l.length + v.l.length) (C := cp) (K := 2) Tryz.underlying26 gsz113 rfl rfl hi.1 (by omega) hcp (by omega) rfl) ?_
  refine Zm ?_
  refine VL.setv 44 rfl (show v.val = .slice (some ⟨v.b, v.o + 0 * Dat.sz NamesRef, none⟩) v.l.length v.c by unfold Sv.val; rw [hva, Nat.zero_mul]; rfl) ?_
  refine VL.copyB (src := v.l.flatMap Dat.enc) Tryz.underlying26 gsz113 UpdB.out rfl (by rw [lV]; congr 1; exact (Nat.min_eq_left (by omega)).symm) (ok_src0 (r := v) (by decide) hv) (enc_one1 v.l) (by rw [lV, Nat.zero_add, hcl, ← Nat.add_mul]; exact Nat.mul_le_mul_right _ (by omega)) (by decide) ?_
  rw [Nat.zero_add, lV]
  refine Zl ?_
  refine Zq ?_
  refine VC.draw [(0, true), (1, true), (2, true), (3, true), (4, true), (5, true), (6, true), (7, true), (8, false)] mixed (by kernel_rfl) (by kernel_rfl) (by kernel_rfl) ?_
  refine Zw rfl (q_move rfl) ?_
  refine Zw rfl (q_move rfl) ?_
  refine Zw rfl (q_move rfl) ?_
  refine Zw rfl (q_add rfl rfl ⟨by omega, by omega⟩) ?_
  refine Zw rfl (q_fromV (b := g) (o := 0) (L := s.l.length + v.l.length) (C := cp) (K := 2) Tryz.underlying26 gsz113 rfl rfl (by omega) (by omega) hcp (by omega) rfl) ?_
  refine Zw rfl (q_move rfl) ?_
  refine Zw rfl (q_move rfl) ?_
  refine Zw rfl (q_fromV (b := s.b) (o := s.o) (L := s.l.length) (C := s.c) (K := 2) Tryz.underlying26 gsz113 (show some s.val = _ by unfold Sv.val; rw [hsa]) rfl hi.1 (by omega) hf (by omega) rfl) ?_
  refine VD.one rfl ?_
  rw [show (i + (v.l.length : Int)).toNat = i.toNat + v.l.length by omega]
  refine VL.copyB (src := (s.l.drop i.toNat).flatMap Dat.enc) Tryz.underlying26 gsz113 UpdB.out rfl (by rw [lS]; congr 1; exact (Nat.min_eq_left (by omega)).symm) (ok_srcK (r := s) (by decide) hne i.toNat) (enc_one1 _) (by rw [lS, Nat.zero_add, hic.1, hcl, ← Nat.add_mul]; exact Nat.mul_le_mul_right _ (by omega)) (by decide) ?_
  rw [Nat.zero_add, lS, Nat.add_mul]
  refine VL.back (D' := []) (by kernel_rfl) Pend.nil ?_
  refine VD.to (fun _ _ h => h) ?_
  refine Zq (Zr ?_)
  refine Zy ?_
  have ho := fun F => own_blk (F := F) (e := 113) (b := g) (l' := s.l.take i.toNat ++ v.l ++ s.l.drop i.toNat) (hic.2.1.trans hcl) (by rw [enc_len] at hic; exact hic.2.2) hLn hcp hcm
  exact VC.ret (fin1 (.inr rfl) rfl rfl ⟨some ⟨g, 0, none⟩, cp, _⟩ (ho Ow.emp).1 rfl (fun _ _ => trivial) (ho _).2)
 refine Zk ?_
 refine Zq (Zr ?_)
 refine VL.open (s := s) (e := 113) Fo.out (by omega) fun b cs hsa hcl hct _ hcm => ?_
 rw [hK] at hcl hct
 have hctA : cs.take ((s.l.take i.toNat).flatMap Dat.enc).length = (s.l.take i.toNat).flatMap Dat.enc := by
   rw [lA]
   have : cs.take (i.toNat * 2) = (cs.take (s.l.length * 2)).take (i.toNat * 2) := by rw [List.take_take, Nat.min_eq_left (Nat.mul_le_mul_right _ (by omega))]
   rw [this, hct]
   exact flatMap_take s.l i.toNat
 have hfit : ((s.l.take i.toNat).flatMap Dat.enc).length + (v.l.flatMap Dat.enc).length + ((s.l.drop i.toNat).flatMap Dat.enc).length ≤ cs.length := by
   rw [lA, lV, lS, hcl, ← Nat.add_mul, ← Nat.add_mul]; exact Nat.mul_le_mul_right _ (by omega)
 have hic := ins_cells2 (V := v.l.flatMap Dat.enc) (S := (s.l.drop i.toNat).flatMap Dat.enc) hctA hfit
 rw [← hfl, lA, lV, lS] at hic
 refine Zy ?_
 refine Zu (q_add rfl rfl ⟨by omega, by omega⟩) ?_
 refine Zu (q_toV (a0 := s.a) (L := s.l.length) (C := s.c) (K := 2) Tryz.underlying26 gsz113 rfl rfl (by omega) (by omega)) ?_
 rw [show ((s.l.length : Int) + (v.l.length : Int)).toNat = s.l.length + v.l.length by omega, hsa]
 refine Zy ?_
 refine Zq (Zq (Zr ?_))
 refine Zy ?_
 refine Zu (q_add rfl rfl ⟨by omega, by omega⟩) ?_
 refine Zu (q_fromV (b := b) (o := 0) (L := s.l.length + v.l.length) (C := s.c) (K := 2) Tryz.underlying26 gsz113 rfl rfl (by omega) (by omega) (by omega) (by omega) rfl) ?_
 refine Zu (q_overlaps (tS := 26) (tR := 4) (s := v) (b := b) Tryz.func280 rfl rfl (by kernel_rfl) (by kernel_rfl) Tryz.underlying26 gsz113 rfl UpdB.out (fun h => by rw [h] at hcl; simp at hcl; omega) hv) ?_
 refine Zu (q_not rfl) ?_
 refine Zl ?_
 refine VC.cond_t rfl ?_
 refine VC.shut v 113 (fun _ _ _ _ => trivial) ?_
 refine Zq ?_
 refine VC.draw [(0, true), (1, true), (2, true), (3, true), (4, true), (5, true), (6, true), (7, true), (8, false)] mixed (by kernel_rfl) (by kernel_rfl) (by kernel_rfl) ?_
 refine Zw rfl (q_move rfl) ?_
 refine Zw rfl (q_move rfl) ?_
 refine Zw rfl (q_move rfl) ?_
 refine Zw rfl (q_add rfl rfl ⟨by omega, by omega⟩) ?_
 refine Zw rfl (q_fromV (b := b) (o := 0) (L := s.l.length + v.l.length) (C := s.c) (K := 2) Tryz.underlying26 gsz113 rfl rfl (by omega) (by omega) (by omega) (by omega) rfl) ?_
 refine Zw rfl (q_move rfl) ?_
 refine Zw rfl (q_move rfl) ?_
 refine Zw rfl (q_fromV (b := b) (o := 0) (L := s.l.length + v.l.length) (C := s.c) (K := 2) Tryz.underlying26 gsz113 rfl rfl hi.1 (by omega) (by omega) (by omega) rfl) ?_
 refine VD.one rfl ?_
 rw [show (i + (v.l.length : Int)).toNat = i.toNat + v.l.length by omega, Nat.zero_add, Nat.zero_add]
 refine VL.copyB (src := (s.l.drop i.toNat).flatMap Dat.enc) Tryz.underlying26 gsz113 UpdB.out rfl (by rw [lS]; congr 1; simp only [Nat.min_def]; split <;> omega) (blk_src (n := s.l.length) hct rfl) (enc_one1 _) (by rw [lS, hcl, ← Nat.add_mul]; exact Nat.mul_le_mul_right _ (by omega)) (by decide) ?_
 rw [lS, Nat.add_mul]
 refine VL.back (D' := []) (by kernel_rfl) Pend.nil ?_
 refine VD.to (fun _ _ h => h) ?_
 refine Zq (Zr ?_)
 refine Zy ?_
 refine Zu (q_fromV (b := b) (o := 0) (L := s.l.length + v.l.length) (C := s.c) (K := 2) Tryz.underlying26 gsz113 rfl rfl hi.1 (by omega) (by omega) (by omega) rfl) ?_
 refine Zm ?_
 refine VL.factM (φ := v.a = some ⟨v.b, v.o, none⟩) (fun h m => (InM.out (X := v.ok) h m).2.2.1 hv) fun hva => ?_
 refine VL.setv 81 rfl (show v.val = .slice (some ⟨v.b, v.o + 0 * Dat.sz NamesRef, none⟩) v.l.length v.c by unfold Sv.val; rw [hva, Nat.zero_mul]; rfl) ?_
 rw [Nat.zero_add]
 refine VL.copyB (src := v.l.flatMap Dat.enc) Tryz.underlying26 gsz113 UpdB.out rfl (by rw [lV]; congr 1; exact (Nat.min_eq_left (by omega)).symm) (ok_src0 (r := v) (by decide) hv) (enc_one1 v.l) (by rw [lV, hic.1, hcl, ← Nat.add_mul]; exact Nat.mul_le_mul_right _ (by omega)) (by decide) ?_
 rw [lV]
 refine Zl ?_
 refine Zq (Zr ?_)
 refine Zy ?_
 have ho := fun F => own_blk (F := F) (e := 113) (b := b) (l' := s.l.take i.toNat ++ v.l ++ s.l.drop i.toNat) (hic.2.1.trans hcl) (by rw [enc_len] at hic; exact hic.2.2) hLn (by omega) hcm
 exact VC.ret (fin1 (.inr rfl) rfl rfl ⟨some ⟨b, 0, none⟩, s.c, _⟩ (ho Ow.emp).1 rfl (fun _ _ => trivial) (ho _).2)
theorem repo_set_ct (s_0 : StateState) (name_1 : Str) (commit_2 : Int) {r : StateStateP} (hS : Sh.repo_set s_0.pl name_1 commit_2 = some r) :
 Ct Tryz.prog 125 [.agg (zStateState s_0).toArray, str name_1, i64 commit_2] (s_0.now_work.ok.and (s_0.now_index.ok.and (s_0.now_refs.ok.and (s_0.now_seq_doing.ok.and (s_0.now_seq_todo.ok.and (s_0.now_seq_index.ok.and (s_0.now_seq_work.ok.and (s_0.now_stash.ok.and (s_0.commits.ok.and (s_0.log_back.ok.and s_0.log_forth.ok)))))))))) (Ow.emp) (X := StateState) (fun x => .agg (Dat.enc x).toArray) (fun x => r = x.pl) (fun x => x.m) (fun x => Ow.emp) := by
 refine Zo Tryz.func125 Tryz.ntmps125 fun c => ?_
 unfold Sh.repo_set at hS
 refine Zq (Zr ?_)
 refine VL.box (cs := (zStateState s_0)) rfl rfl (by decide) fun b3_1 => ?_
 refine VL.alloc (cs := [.slice none 0 0, .slice none 0 0, .slice none 0 0, str [], i64 0, str [], i64 0, str [], .slice none 0 0, .slice none 0 0, i64 0, str [], str [], i64 0, .slice none 0 0, .slice none 0 0, .slice none 0 0, .slice none 0 0, .slice none 0 0, .slice none 0 0, i64 0]) (by kernel_rfl) (by decide) fun b6_2 => ?_
 refine Zl ?_
 refine Zq (Zr ?_)
 refine Zu (q_field gfa41_0 rfl) ?_
 refine Zu (q_field gfa35_2 rfl) ?_
 refine Zu (q_fe gone26 rfl rfl) ?_
 obtain ⟨y12_3, ey12_3, hS⟩ := bd_s hS
 refine VL.callO (slices_Clone_names_Ref_names_Ref_ct s_0.now_refs ey12_3) rfl (by decide) ?_
 rintro q12_3_0 rfl
 try dsimp only
 refine Zu (q_field gfa41_0 rfl) ?_
 refine Zu (q_field gfa35_2 rfl) ?_
 refine Zv (vc := [q12_3_0.val]) (cs' := [s_0.now_work.val, s_0.now_index.val, q12_3_0.val, str s_0.now_head_branch, i64 s_0.now_head_commit, str s_0.now_seq_kind, i64 s_0.now_seq_other, str s_0.now_seq_text, s_0.now_seq_doing.val, s_0.now_seq_todo.val, i64 s_0.now_seq_made, str s_0.now_seq_branch, str s_0.now_seq_head_branch, i64 s_0.now_seq_head_commit, s_0.now_seq_index.val, s_0.now_seq_work.val, s_0.now_stash.val, s_0.commits.val, s_0.log_back.val, s_0.log_forth.val, i64 s_0.time]) rfl gsz26 ?_
 refine Zl ?_
 refine VC.keep (ρ' := [(1, str name_1), (2, i64 commit_2), (3, ptr b3_1 0), (6, ptr b6_2 0)]) [1, 2, 3, 6] rfl ?_
 refine Zq (Zr ?_)
 refine Zu (q_fes gagg41 rfl rfl) ?_
 refine Zm ?_
 obtain ⟨y18_4, ey18_4, hS⟩ := bd_s hS
 refine Zu (q_callR (repo_find_ct (⟨s_0.now_work, s_0.now_index, q12_3_0, s_0.now_head_branch, s_0.now_head_commit, s_0.now_seq_kind, s_0.now_seq_other, s_0.now_seq_text, s_0.now_seq_doing, s_0.now_seq_todo, s_0.now_seq_made, s_0.now_seq_branch, s_0.now_seq_head_branch, s_0.now_seq_head_commit, s_0.now_seq_index, s_0.now_seq_work, s_0.now_stash, s_0.commits, s_0.log_back, s_0.log_forth, s_0.time⟩ : StateState) name_1 ey18_4) rfl (fun _ _ => rfl)) ?_
 refine Zm ?_
 refine Zu (q_extract rfl rfl) ?_
 refine Zu (q_extract rfl rfl) ?_
 refine Zy ?_
 refine Zq (Zb ?_)
 refine VC.cutJ (S := Bool) (fun (x21_5 : Bool) => x21_5) (fun (x21_5 : Bool) => [(1, str name_1), (2, i64 commit_2), (3, ptr b3_1 0), (6, ptr b6_2 0), (7, i64 y18_4.1), (8, .bool y18_4.2), (21, .bool x21_5)]) (fun (x21_5 : Bool) => Mo.tt) (fun (x21_5 : Bool) => Ow.star (Blk b3_1 [s_0.now_work.val, s_0.now_index.val, q12_3_0.val, str s_0.now_head_branch, i64 s_0.now_head_commit, str s_0.now_seq_kind, i64 s_0.now_seq_other, str s_0.now_seq_text, s_0.now_seq_doing.val, s_0.now_seq_todo.val, i64 s_0.now_seq_made, str s_0.now_seq_branch, str s_0.now_seq_head_branch, i64 s_0.now_seq_head_commit, s_0.now_seq_index.val, s_0.now_seq_work.val, s_0.now_stash.val, s_0.commits.val, s_0.log_back.val, s_0.log_forth.val, i64 s_0.time] 41) (Ow.star (Blk b6_2 [.slice none 0 0, .slice none 0 0, .slice none 0 0, str [], i64 0, str [], i64 0, str [], .slice none 0 0, .slice none 0 0, i64 0, str [], str [], i64 0, .slice none 0 0, .slice none 0 0, .slice none 0 0, .slice none 0 0, .slice none 0 0, .slice none 0 0, i64 0] 41) (Ow.star (Sv.own q12_3_0 113) (Ow.emp)))) hS ?_ ?_
 ·
  clear hS
  intro k6 hS
  refine Zr ?_
  refine Zy ?_
  refine Zspb 23 hS (fun h23 hS => ?_) (fun h23 hS => ?_)
  ·
   refine Zg ?_
   refine Zh (q_eql rfl rfl) ?_
   refine Zy ?_
   refine VL.mt (decide (commit_2 = 0)) [1, 2, 3, 6, 7, 8, 21] (fun _ _ h => h) hS rfl
  refine Zy ?_
  refine VL.mt false [1, 2, 3, 6, 7, 8, 21] (fun _ _ h => h) hS rfl
 clear hS
 rintro x21_5 hS
 refine Zcb hS (fun h21 hS => ?_) (fun h21 hS => ?_)
 ·
  cases hS
 refine Zq (Zr ?_)
 refine Zy ?_
 refine Zcb hS (fun h36 hS => ?_) (fun h36 hS => ?_)
 ·
  refine Zr ?_
  refine Zu (q_field gfa41_0 rfl) ?_
  refine Zu (q_field gfa35_2 rfl) ?_
  refine Zu (q_fe gone26 rfl rfl) ?_
  refine Zy ?_
  obtain ⟨z43_7, nz43_7, hz43_7, hS⟩ := at_s hS
  refine Zu (q_ixo (s := q12_3_0) Tryz.underlying26 gsz113 rfl rfl nz43_7 (lt_of_get nz43_7 hz43_7)) ?_
  refine Zu (q_field gfa113_1 rfl) ?_
  refine VL.storeE (s := q12_3_0) (T := 113) (j := 1) (vc := [i64 commit_2]) (⟨z43_7.name, commit_2⟩ : NamesRef) (by decide) rfl rfl hz43_7 rfl gsz3 rfl rfl (Nat.le_of_ble_eq_true rfl) rfl (fun w8 hw8 haw8 hcw8 hvw8 hbw8 how8 => ?_)
  rw [← hvw8]
  replace hS := lt_to hw8 hS
  refine Zl ?_
  refine VC.keep (ρ' := [(3, ptr b3_1 0), (6, ptr b6_2 0)]) [3, 6] rfl ?_
  refine Zq (Zr ?_)
  refine Zu (q_fes gagg41 rfl rfl) ?_
  refine Zv (vc := [s_0.now_work.val, s_0.now_index.val, w8.val, str s_0.now_head_branch, i64 s_0.now_head_commit, str s_0.now_seq_kind, i64 s_0.now_seq_other, str s_0.now_seq_text, s_0.now_seq_doing.val, s_0.now_seq_todo.val, i64 s_0.now_seq_made, str s_0.now_seq_branch, str s_0.now_seq_head_branch, i64 s_0.now_seq_head_commit, s_0.now_seq_index.val, s_0.now_seq_work.val, s_0.now_stash.val, s_0.commits.val, s_0.log_back.val, s_0.log_forth.val, i64 s_0.time]) (cs' := [s_0.now_work.val, s_0.now_index.val, w8.val, str s_0.now_head_branch, i64 s_0.now_head_commit, str s_0.now_seq_kind, i64 s_0.now_seq_other, str s_0.now_seq_text, s_0.now_seq_doing.val, s_0.now_seq_todo.val, i64 s_0.now_seq_made, str s_0.now_seq_branch, str s_0.now_seq_head_branch, i64 s_0.now_seq_head_commit, s_0.now_seq_index.val, s_0.now_seq_work.val, s_0.now_stash.val, s_0.commits.val, s_0.log_back.val, s_0.log_forth.val, i64 s_0.time]) rfl gsz41 ?_
  refine Zl ?_
  refine VC.shut w8 113 (fun _ _ _ _ => trivial) ?_
  cases hS
  exact VC.ret (finG (vs := [.agg #[s_0.now_work.val, s_0.now_index.val, w8.val, str s_0.now_head_branch, i64 s_0.now_head_commit, str s_0.now_seq_kind, i64 s_0.now_seq_other, str s_0.now_seq_text, s_0.now_seq_doing.val, s_0.now_seq_todo.val, i64 s_0.now_seq_made, str s_0.now_seq_branch, str s_0.now_seq_head_branch, i64 s_0.now_seq_head_commit, s_0.now_seq_index.val, s_0.now_seq_work.val, s_0.now_stash.val, s_0.commits.val, s_0.log_back.val, s_0.log_forth.val, i64 s_0.time]]) (.inr rfl) rfl (RVs.cell gagg41 rfl rfl Rd.blk (RVs.nil)) ⟨s_0.now_work, s_0.now_index, w8, s_0.now_head_branch, s_0.now_head_commit, s_0.now_seq_kind, s_0.now_seq_other, s_0.now_seq_text, s_0.now_seq_doing, s_0.now_seq_todo, s_0.now_seq_made, s_0.now_seq_branch, s_0.now_seq_head_branch, s_0.now_seq_head_commit, s_0.now_seq_index, s_0.now_seq_work, s_0.now_stash, s_0.commits, s_0.log_back, s_0.log_forth, s_0.time⟩ rfl rfl (by (try dsimp only); exact InM.out) (fun _ _ => trivial))
 refine Zq (Zr ?_)
 refine Zm ?_
 refine Zu (q_gtr rfl rfl) ?_
 refine Zy ?_
 refine Zc hS (fun h45 hS => ?_) (fun h45 hS => ?_)
 ·
  refine Zr ?_
  refine Zu (q_field gfa41_0 rfl) ?_
  refine Zu (q_field gfa35_2 rfl) ?_
  refine Zu (q_fe gone26 rfl rfl) ?_
  refine Zy ?_
  refine Zu (q_build (vs := [(0, str name_1), (1, i64 commit_2)]) (cs := #[str name_1, i64 commit_2]) rfl (by kernel_rfl)) ?_
  refine VL.litO (α := NamesRef) (xs := [.tmp 54]) (vs := [.agg #[str name_1, i64 commit_2]]) [⟨name_1, commit_2⟩] Tryz.underlying26 glit113 (by decide) rfl rfl rfl rfl (by decide) (by decide) (fun s55_10 hs55_10 => ?_) (by decide)
  replace hS := lt_to hs55_10 hS
  obtain ⟨b56, hS⟩ := gd_s hS
  refine VL.callO (insert113_ct q12_3_0 s55_10 y18_4.1 b56.1 b56.2.1 b56.2.2) rfl (by decide) ?_
  intro s56_12 hs56_12
  replace hS := lt_to hs56_12 hS
  refine Zu (q_field gfa41_0 rfl) ?_
  refine Zu (q_field gfa35_2 rfl) ?_
  refine Zv (vc := [s56_12.val]) (cs' := [s_0.now_work.val, s_0.now_index.val, s56_12.val, str s_0.now_head_branch, i64 s_0.now_head_commit, str s_0.now_seq_kind, i64 s_0.now_seq_other, str s_0.now_seq_text, s_0.now_seq_doing.val, s_0.now_seq_todo.val, i64 s_0.now_seq_made, str s_0.now_seq_branch, str s_0.now_seq_head_branch, i64 s_0.now_seq_head_commit, s_0.now_seq_index.val, s_0.now_seq_work.val, s_0.now_stash.val, s_0.commits.val, s_0.log_back.val, s_0.log_forth.val, i64 s_0.time]) rfl gsz26 ?_
  refine Zl ?_
  refine VC.keep (ρ' := [(3, ptr b3_1 0), (6, ptr b6_2 0)]) [3, 6] rfl ?_
  refine Zq (Zr ?_)
  refine Zu (q_fes gagg41 rfl rfl) ?_
  refine Zv (vc := [s_0.now_work.val, s_0.now_index.val, s56_12.val, str s_0.now_head_branch, i64 s_0.now_head_commit, str s_0.now_seq_kind, i64 s_0.now_seq_other, str s_0.now_seq_text, s_0.now_seq_doing.val, s_0.now_seq_todo.val, i64 s_0.now_seq_made, str s_0.now_seq_branch, str s_0.now_seq_head_branch, i64 s_0.now_seq_head_commit, s_0.now_seq_index.val, s_0.now_seq_work.val, s_0.now_stash.val, s_0.commits.val, s_0.log_back.val, s_0.log_forth.val, i64 s_0.time]) (cs' := [s_0.now_work.val, s_0.now_index.val, s56_12.val, str s_0.now_head_branch, i64 s_0.now_head_commit, str s_0.now_seq_kind, i64 s_0.now_seq_other, str s_0.now_seq_text, s_0.now_seq_doing.val, s_0.now_seq_todo.val, i64 s_0.now_seq_made, str s_0.now_seq_branch, str s_0.now_seq_head_branch, i64 s_0.now_seq_head_commit, s_0.now_seq_index.val, s_0.now_seq_work.val, s_0.now_stash.val, s_0.commits.val, s_0.log_back.val, s_0.log_forth.val, i64 s_0.time]) rfl gsz41 ?_
  refine Zl ?_
  refine VC.shut s56_12 113 (fun _ _ _ _ => trivial) ?_
  cases hS
  exact VC.ret (finG (vs := [.agg #[s_0.now_work.val, s_0.now_index.val, s56_12.val, str s_0.now_head_branch, i64 s_0.now_head_commit, str s_0.now_seq_kind, i64 s_0.now_seq_other, str s_0.now_seq_text, s_0.now_seq_doing.val, s_0.now_seq_todo.val, i64 s_0.now_seq_made, str s_0.now_seq_branch, str s_0.now_seq_head_branch, i64 s_0.now_seq_head_commit, s_0.now_seq_index.val, s_0.now_seq_work.val, s_0.now_stash.val, s_0.commits.val, s_0.log_back.val, s_0.log_forth.val, i64 s_0.time]]) (.inr rfl) rfl (RVs.cell gagg41 rfl rfl Rd.blk (RVs.nil)) ⟨s_0.now_work, s_0.now_index, s56_12, s_0.now_head_branch, s_0.now_head_commit, s_0.now_seq_kind, s_0.now_seq_other, s_0.now_seq_text, s_0.now_seq_doing, s_0.now_seq_todo, s_0.now_seq_made, s_0.now_seq_branch, s_0.now_seq_head_branch, s_0.now_seq_head_commit, s_0.now_seq_index, s_0.now_seq_work, s_0.now_stash, s_0.commits, s_0.log_back, s_0.log_forth, s_0.time⟩ rfl rfl (by (try dsimp only); exact InM.out) (fun _ _ => trivial))
 refine Zk ?_
 refine VC.keep (ρ' := [(3, ptr b3_1 0), (6, ptr b6_2 0)]) [3, 6] rfl ?_
 refine Zq (Zr ?_)
 refine Zu (q_fes gagg41 rfl rfl) ?_
 refine Zv (vc := [s_0.now_work.val, s_0.now_index.val, q12_3_0.val, str s_0.now_head_branch, i64 s_0.now_head_commit, str s_0.now_seq_kind, i64 s_0.now_seq_other, str s_0.now_seq_text, s_0.now_seq_doing.val, s_0.now_seq_todo.val, i64 s_0.now_seq_made, str s_0.now_seq_branch, str s_0.now_seq_head_branch, i64 s_0.now_seq_head_commit, s_0.now_seq_index.val, s_0.now_seq_work.val, s_0.now_stash.val, s_0.commits.val, s_0.log_back.val, s_0.log_forth.val, i64 s_0.time]) (cs' := [s_0.now_work.val, s_0.now_index.val, q12_3_0.val, str s_0.now_head_branch, i64 s_0.now_head_commit, str s_0.now_seq_kind, i64 s_0.now_seq_other, str s_0.now_seq_text, s_0.now_seq_doing.val, s_0.now_seq_todo.val, i64 s_0.now_seq_made, str s_0.now_seq_branch, str s_0.now_seq_head_branch, i64 s_0.now_seq_head_commit, s_0.now_seq_index.val, s_0.now_seq_work.val, s_0.now_stash.val, s_0.commits.val, s_0.log_back.val, s_0.log_forth.val, i64 s_0.time]) rfl gsz41 ?_
 refine Zl ?_
 refine VC.shut q12_3_0 113 (fun _ _ _ _ => trivial) ?_
 cases hS
 exact VC.ret (finG (vs := [.agg #[s_0.now_work.val, s_0.now_index.val, q12_3_0.val, str s_0.now_head_branch, i64 s_0.now_head_commit, str s_0.now_seq_kind, i64 s_0.now_seq_other, str s_0.now_seq_text, s_0.now_seq_doing.val, s_0.now_seq_todo.val, i64 s_0.now_seq_made, str s_0.now_seq_branch, str s_0.now_seq_head_branch, i64 s_0.now_seq_head_commit, s_0.now_seq_index.val, s_0.now_seq_work.val, s_0.now_stash.val, s_0.commits.val, s_0.log_back.val, s_0.log_forth.val, i64 s_0.time]]) (.inr rfl) rfl (RVs.cell gagg41 rfl rfl Rd.blk (RVs.nil)) ⟨s_0.now_work, s_0.now_index, q12_3_0, s_0.now_head_branch, s_0.now_head_commit, s_0.now_seq_kind, s_0.now_seq_other, s_0.now_seq_text, s_0.now_seq_doing, s_0.now_seq_todo, s_0.now_seq_made, s_0.now_seq_branch, s_0.now_seq_head_branch, s_0.now_seq_head_commit, s_0.now_seq_index, s_0.now_seq_work, s_0.now_stash, s_0.commits, s_0.log_back, s_0.log_forth, s_0.time⟩ rfl rfl (by (try dsimp only); exact InM.out) (fun _ _ => trivial))
theorem repo_move_ct (s_0 : StateState) (commit_1 : Int) {r : StateStateP} (hS : Sh.repo_move s_0.pl commit_1 = some r) :
 Ct Tryz.prog 223 [.agg (zStateState s_0).toArray, i64 commit_1] (s_0.now_work.ok.and (s_0.now_index.ok.and (s_0.now_refs.ok.and (s_0.now_seq_doing.ok.and (s_0.now_seq_todo.ok.and (s_0.now_seq_index.ok.and (s_0.now_seq_work.ok.and (s_0.now_stash.ok.and (s_0.commits.ok.and (s_0.log_back.ok.and s_0.log_forth.ok)))))))))) (Ow.emp) (X := StateState) (fun x => .agg (Dat.enc x).toArray) (fun x => r = x.pl) (fun x => x.m) (fun x => Ow.emp) := by
 refine Zo Tryz.func223 Tryz.ntmps223 fun c => ?_
 unfold Sh.repo_move at hS
 refine Zq (Zr ?_)
 refine VL.box (cs := (zStateState s_0)) rfl rfl (by decide) fun b2_1 => ?_
 refine VL.alloc (cs := [.slice none 0 0, .slice none 0 0, .slice none 0 0, str [], i64 0, str [], i64 0, str [], .slice none 0 0, .slice none 0 0, i64 0, str [], str [], i64 0, .slice none 0 0, .slice none 0 0, .slice none 0 0, .slice none 0 0, .slice none 0 0, .slice none 0 0, i64 0]) (by kernel_rfl) (by decide) fun b4_2 => ?_
 refine Zl ?_
 refine Zq (Zr ?_)
 refine Zm ?_
 refine Zu (q_field gfa41_0 rfl) ?_
 refine Zu (q_field gfa35_3 rfl) ?_
 refine Zu (q_field gfa28_1 rfl) ?_
 refine Zv (vc := [i64 commit_1]) (cs' := [s_0.now_work.val, s_0.now_index.val, s_0.now_refs.val, str s_0.now_head_branch, i64 commit_1, str s_0.now_seq_kind, i64 s_0.now_seq_other, str s_0.now_seq_text, s_0.now_seq_doing.val, s_0.now_seq_todo.val, i64 s_0.now_seq_made, str s_0.now_seq_branch, str s_0.now_seq_head_branch, i64 s_0.now_seq_head_commit, s_0.now_seq_index.val, s_0.now_seq_work.val, s_0.now_stash.val, s_0.commits.val, s_0.log_back.val, s_0.log_forth.val, i64 s_0.time]) rfl gsz3 ?_
 refine Zl ?_
 refine Zq (Zq (Zr ?_))
 refine Zu (q_field gfa41_0 rfl) ?_
 refine Zu (q_field gfa35_3 rfl) ?_
 refine Zu (q_field gfa28_0 rfl) ?_
 refine Zu (q_fe gone9 rfl rfl) ?_
 refine Zu (q_sne rfl rfl) ?_
 refine Zl ?_
 refine VC.keep (ρ' := [(1, i64 commit_1), (2, ptr b2_1 0), (4, ptr b4_2 0), (13, .bool (!decide (s_0.now_head_branch = [])))]) [1, 2, 4, 13] rfl ?_
 refine Zcn hS (fun h13 hS => ?_) (fun h13 hS => ?_)
 ·
  refine Zr ?_
  refine Zu (q_fes gagg41 rfl rfl) ?_
  refine Zu (q_field gfa41_0 rfl) ?_
  refine Zu (q_field gfa35_3 rfl) ?_
  refine Zu (q_field gfa28_0 rfl) ?_
  refine Zu (q_fe gone9 rfl rfl) ?_
  refine Zm ?_
  obtain ⟨y20_3, ey20_3, hS⟩ := bd_s hS
  refine VL.callF (repo_set_ct (⟨s_0.now_work, s_0.now_index, s_0.now_refs, s_0.now_head_branch, commit_1, s_0.now_seq_kind, s_0.now_seq_other, s_0.now_seq_text, s_0.now_seq_doing, s_0.now_seq_todo, s_0.now_seq_made, s_0.now_seq_branch, s_0.now_seq_head_branch, s_0.now_seq_head_commit, s_0.now_seq_index, s_0.now_seq_work, s_0.now_stash, s_0.commits, s_0.log_back, s_0.log_forth, s_0.time⟩ : StateState) s_0.now_head_branch commit_1 ey20_3) rfl (by decide) ?_
  rintro q20_3_0 rfl
  try dsimp only
  refine Zv (vc := (zStateState q20_3_0)) (cs' := (zStateState q20_3_0)) rfl gsz41 ?_
  refine Zl ?_
  refine VC.keep (ρ' := [(2, ptr b2_1 0), (4, ptr b4_2 0)]) [2, 4] rfl ?_
  refine Zq (Zr ?_)
  refine Zu (q_fes gagg41 rfl rfl) ?_
  refine Zv (vc := (zStateState q20_3_0)) (cs' := (zStateState q20_3_0)) rfl gsz41 ?_
  refine Zl ?_
  cases hS
  exact VC.ret (finG (vs := [.agg (zStateState q20_3_0).toArray]) (.inr rfl) rfl (RVs.cell gagg41 rfl rfl Rd.blk (RVs.nil)) q20_3_0 rfl rfl (by (try dsimp only); exact InM.out) (fun _ _ => trivial))
 refine Zk ?_
 refine Zq (Zr ?_)
 refine Zu (q_fes gagg41 rfl rfl) ?_
 refine Zv (vc := [s_0.now_work.val, s_0.now_index.val, s_0.now_refs.val, str s_0.now_head_branch, i64 commit_1, str s_0.now_seq_kind, i64 s_0.now_seq_other, str s_0.now_seq_text, s_0.now_seq_doing.val, s_0.now_seq_todo.val, i64 s_0.now_seq_made, str s_0.now_seq_branch, str s_0.now_seq_head_branch, i64 s_0.now_seq_head_commit, s_0.now_seq_index.val, s_0.now_seq_work.val, s_0.now_stash.val, s_0.commits.val, s_0.log_back.val, s_0.log_forth.val, i64 s_0.time]) (cs' := [s_0.now_work.val, s_0.now_index.val, s_0.now_refs.val, str s_0.now_head_branch, i64 commit_1, str s_0.now_seq_kind, i64 s_0.now_seq_other, str s_0.now_seq_text, s_0.now_seq_doing.val, s_0.now_seq_todo.val, i64 s_0.now_seq_made, str s_0.now_seq_branch, str s_0.now_seq_head_branch, i64 s_0.now_seq_head_commit, s_0.now_seq_index.val, s_0.now_seq_work.val, s_0.now_stash.val, s_0.commits.val, s_0.log_back.val, s_0.log_forth.val, i64 s_0.time]) rfl gsz41 ?_
 refine Zl ?_
 cases hS
 exact VC.ret (finG (vs := [.agg #[s_0.now_work.val, s_0.now_index.val, s_0.now_refs.val, str s_0.now_head_branch, i64 commit_1, str s_0.now_seq_kind, i64 s_0.now_seq_other, str s_0.now_seq_text, s_0.now_seq_doing.val, s_0.now_seq_todo.val, i64 s_0.now_seq_made, str s_0.now_seq_branch, str s_0.now_seq_head_branch, i64 s_0.now_seq_head_commit, s_0.now_seq_index.val, s_0.now_seq_work.val, s_0.now_stash.val, s_0.commits.val, s_0.log_back.val, s_0.log_forth.val, i64 s_0.time]]) (.inr rfl) rfl (RVs.cell gagg41 rfl rfl Rd.blk (RVs.nil)) ⟨s_0.now_work, s_0.now_index, s_0.now_refs, s_0.now_head_branch, commit_1, s_0.now_seq_kind, s_0.now_seq_other, s_0.now_seq_text, s_0.now_seq_doing, s_0.now_seq_todo, s_0.now_seq_made, s_0.now_seq_branch, s_0.now_seq_head_branch, s_0.now_seq_head_commit, s_0.now_seq_index, s_0.now_seq_work, s_0.now_stash, s_0.commits, s_0.log_back, s_0.log_forth, s_0.time⟩ rfl rfl (by (try dsimp only); exact InM.out) (fun _ _ => trivial))
theorem repo_made_ct (s_0 : StateState) (tree_1 : Sv FilesFile) (parents_2 : Sv Int) (text_3 : Str) {r : StateStateP} (hS : Sh.repo_made s_0.pl tree_1.l parents_2.l text_3 = some r) :
 Ct Tryz.prog 205 [.agg (zStateState s_0).toArray, tree_1.val, parents_2.val, str text_3] (s_0.now_work.ok.and (s_0.now_index.ok.and (s_0.now_refs.ok.and (s_0.now_seq_doing.ok.and (s_0.now_seq_todo.ok.and (s_0.now_seq_index.ok.and (s_0.now_seq_work.ok.and (s_0.now_stash.ok.and (s_0.commits.ok.and (s_0.log_back.ok.and (s_0.log_forth.ok.and (tree_1.ok.and parents_2.ok)))))))))))) (Ow.emp) (X := StateState) (fun x => .agg (Dat.enc x).toArray) (fun x => r = x.pl) (fun x => x.m) (fun x => Ow.emp) := by
 refine Zo Tryz.func205 Tryz.ntmps205 fun c => ?_
 unfold Sh.repo_made at hS
 refine Zq (Zr ?_)
 refine VL.box (cs := (zStateState s_0)) rfl rfl (by decide) fun b4_1 => ?_
 refine VL.alloc (cs := [.slice none 0 0, .slice none 0 0, .slice none 0 0, str [], i64 0, str [], i64 0, str [], .slice none 0 0, .slice none 0 0, i64 0, str [], str [], i64 0, .slice none 0 0, .slice none 0 0, .slice none 0 0, .slice none 0 0, .slice none 0 0, .slice none 0 0, i64 0]) (by kernel_rfl) (by decide) fun b8_2 => ?_
 refine Zl ?_
 refine Zq ?_
 refine VC.drawG (n := 5) (listed := #[true, true, false, true, true, true, true, true, true, false, false, false, false]) [(0, true), (1, true), (3, true), (4, true), (5, true), (6, true), (7, true), (8, true)] mixed (by kernel_rfl) (by kernel_rfl) (by kernel_rfl) (by kernel_rfl) ?_
 refine VD.q rfl (q_field gfa41_1 rfl) (by decide) ?_
 refine VD.q rfl (q_fe gone36 rfl rfl) (by decide) ?_
 refine VD.q rfl (q_move rfl) (by decide) ?_
 refine VD.q rfl (q_move rfl) (by decide) ?_
 refine VD.q rfl (q_field gfa41_3 rfl) (by decide) ?_
 refine VD.q rfl (q_fe gone3 rfl rfl) (by decide) ?_
 refine VD.q rfl (q_move rfl) (by decide) ?_
 refine VD.q rfl (q_build (vs := [(0, tree_1.val), (1, parents_2.val), (2, i64 s_0.time), (3, str text_3)]) (cs := #[tree_1.val, parents_2.val, i64 s_0.time, str text_3]) rfl (by kernel_rfl)) (by decide) ?_
 obtain ⟨y18_3, ey18_3, hS⟩ := lt_s hS
 obtain ⟨y11_4, ey11_4, hS⟩ := bd_s hS
 refine VD.toG fun hcl => ?_
 refine VG.fork (l := [2, 9]) (n := 4) (by kernel_rfl) rfl fun i hi => ?_
 obtain rfl | rfl : i = 2 ∨ i = 9 := by simpa using hi
 ·
  refine VGo.of rfl ?_
  refine VL.callO (slices_Clone_state_Commit_state_Commit_ct s_0.commits ey11_4) rfl (by decide) ?_
  rintro q11_7021_0 rfl
  try dsimp only
  refine VL.backX (D' := [(8, .agg #[tree_1.val, parents_2.val, i64 s_0.time, str text_3]), (6, i64 s_0.time), (5, ptr b4_1 20)]) (listed' := #[true, true, true, true, true, true, true, true, true, false, false, false, false]) (Pend.cons rfl (q_build (vs := [(0, tree_1.val), (1, parents_2.val), (2, i64 s_0.time), (3, str text_3)]) (cs := #[tree_1.val, parents_2.val, i64 s_0.time, str text_3]) rfl (by kernel_rfl)) (Pend.cons rfl (q_fe gone3 rfl rfl) (Pend.cons rfl (q_field gfa41_3 rfl) (Pend.nil)))) (by kernel_rfl) (by kernel_rfl) ?_
  refine VG.ord [(9, false), (10, false), (11, true), (12, false)] (by kernel_rfl) (closed_of (by kernel_rfl)) (by kernel_rfl) ?_
  refine VD.one rfl ?_
  refine VL.lit (α := StateCommit) (xs := [.tmp 17]) (vs := [.agg #[tree_1.val, parents_2.val, i64 s_0.time, str text_3]]) [⟨tree_1, parents_2, s_0.time, text_3⟩] Tryz.underlying36 glit58 (by decide) rfl rfl rfl rfl (by decide) (fun h m => List.forall_mem_cons.2 ⟨InM.out (X := (tree_1.ok.and parents_2.ok)) h m, fun _ h => by cases h⟩) (by decide) (fun s18_7091 hs18_7091 => ?_) (by decide)
  obtain rfl : y18_3 = s18_7091.l.map StateCommit.pl := ey18_3.symm.trans (congrArg (List.map StateCommit.pl) hs18_7091).symm
  refine VL.back (D' := []) (by kernel_rfl) (Pend.nil) ?_
  refine VD.one rfl ?_
  obtain ⟨b19, hS⟩ := gd_s hS
  refine VL.app (s := q11_7021_0) (r := s18_7091) Tryz.underlying36 gapp58 (by decide) rfl Fo.out (ap1 (apm b19)) (ap2 (apm b19) (by decide)) (by decide) (fun s19_5 hs19_5 => ?_)
  replace hS := lt_to ((congrArg (List.map StateCommit.pl) hs19_5).trans List.map_append) hS
  refine VL.maApp hs19_5 ?_
  refine VL.back (D' := []) (by kernel_rfl) (Pend.nil) ?_
  refine Zw rfl (q_field gfa41_1 rfl) ?_
  refine VD.one rfl ?_
  refine Zv (vc := [s19_5.val]) (cs' := [s_0.now_work.val, s_0.now_index.val, s_0.now_refs.val, str s_0.now_head_branch, i64 s_0.now_head_commit, str s_0.now_seq_kind, i64 s_0.now_seq_other, str s_0.now_seq_text, s_0.now_seq_doing.val, s_0.now_seq_todo.val, i64 s_0.now_seq_made, str s_0.now_seq_branch, str s_0.now_seq_head_branch, i64 s_0.now_seq_head_commit, s_0.now_seq_index.val, s_0.now_seq_work.val, s_0.now_stash.val, s19_5.val, s_0.log_back.val, s_0.log_forth.val, i64 s_0.time]) rfl gsz36 ?_
  refine VL.back (D' := []) (by kernel_rfl) (Pend.nil) ?_
  refine VD.to (fun _ _ h => h) ?_
  refine VC.keep (ρ' := [(4, ptr b4_1 0), (8, ptr b8_2 0)]) [4, 8] rfl ?_
  refine Zq (Zr ?_)
  refine Zu (q_fes gagg41 rfl rfl) ?_
  refine Zu (q_field gfa41_1 rfl) ?_
  refine Zu (q_fe gone36 rfl rfl) ?_
  refine Zu (q_lnm StateCommit.pl (s := s19_5) Tryz.underlying36 rfl) ?_
  refine VL.shut s19_5 58 (fun h m => InM.out (X := MAl s19_5.l) h m) ?_
  obtain ⟨y25_7, ey25_7, hS⟩ := bd_s hS
  refine VL.callF (repo_move_ct (⟨s_0.now_work, s_0.now_index, s_0.now_refs, s_0.now_head_branch, s_0.now_head_commit, s_0.now_seq_kind, s_0.now_seq_other, s_0.now_seq_text, s_0.now_seq_doing, s_0.now_seq_todo, s_0.now_seq_made, s_0.now_seq_branch, s_0.now_seq_head_branch, s_0.now_seq_head_commit, s_0.now_seq_index, s_0.now_seq_work, s_0.now_stash, s19_5, s_0.log_back, s_0.log_forth, s_0.time⟩ : StateState) ((s19_5.l.map StateCommit.pl).length : Int) ey25_7) rfl (by decide) ?_
  rintro q25_7_0 rfl
  try dsimp only
  refine Zv (vc := (zStateState q25_7_0)) (cs' := (zStateState q25_7_0)) rfl gsz41 ?_
  refine Zl ?_
  cases hS
  exact VC.ret (finG (vs := [.agg (zStateState q25_7_0).toArray]) (.inr rfl) rfl (RVs.cell gagg41 rfl rfl Rd.blk (RVs.nil)) q25_7_0 rfl rfl (by (try dsimp only); exact InM.out) (fun _ _ => trivial))
 refine VGo.of rfl ?_
 refine VL.lit (α := StateCommit) (xs := [.tmp 17]) (vs := [.agg #[tree_1.val, parents_2.val, i64 s_0.time, str text_3]]) [⟨tree_1, parents_2, s_0.time, text_3⟩] Tryz.underlying36 glit58 (by decide) rfl rfl rfl rfl (by decide) (fun h m => List.forall_mem_cons.2 ⟨InM.out (X := (tree_1.ok.and parents_2.ok)) h m, fun _ h => by cases h⟩) (by decide) (fun s18_7091 hs18_7091 => ?_) (by decide)
 obtain rfl : y18_3 = s18_7091.l.map StateCommit.pl := ey18_3.symm.trans (congrArg (List.map StateCommit.pl) hs18_7091).symm
 refine VL.backX (D' := [(1, s_0.commits.val), (0, ptr b4_1 17)]) (listed' := #[true, true, false, true, true, true, true, true, true, true, false, false, false]) (Pend.cons rfl (q_fe gone36 rfl rfl) (Pend.cons rfl (q_field gfa41_1 rfl) (Pend.nil))) (by kernel_rfl) (by kernel_rfl) ?_
 refine VG.ord [(2, false), (10, false), (11, true), (12, false)] (by kernel_rfl) (closed_of (by kernel_rfl)) (by kernel_rfl) ?_
 refine VD.one rfl ?_
 refine VL.callO (slices_Clone_state_Commit_state_Commit_ct s_0.commits ey11_4) rfl (by decide) ?_
 rintro q11_7021_0 rfl
 try dsimp only
 refine VL.back (D' := []) (by kernel_rfl) (Pend.nil) ?_
 refine VD.one rfl ?_
 obtain ⟨b19, hS⟩ := gd_s hS
 refine VL.app (s := q11_7021_0) (r := s18_7091) Tryz.underlying36 gapp58 (by decide) rfl Fo.out (ap1 (apm b19)) (ap2 (apm b19) (by decide)) (by decide) (fun s19_5 hs19_5 => ?_)
 replace hS := lt_to ((congrArg (List.map StateCommit.pl) hs19_5).trans List.map_append) hS
 refine VL.maApp hs19_5 ?_
 refine VL.back (D' := []) (by kernel_rfl) (Pend.nil) ?_
 refine Zw rfl (q_field gfa41_1 rfl) ?_
 refine VD.one rfl ?_
 refine Zv (vc := [s19_5.val]) (cs' := [s_0.now_work.val, s_0.now_index.val, s_0.now_refs.val, str s_0.now_head_branch, i64 s_0.now_head_commit, str s_0.now_seq_kind, i64 s_0.now_seq_other, str s_0.now_seq_text, s_0.now_seq_doing.val, s_0.now_seq_todo.val, i64 s_0.now_seq_made, str s_0.now_seq_branch, str s_0.now_seq_head_branch, i64 s_0.now_seq_head_commit, s_0.now_seq_index.val, s_0.now_seq_work.val, s_0.now_stash.val, s19_5.val, s_0.log_back.val, s_0.log_forth.val, i64 s_0.time]) rfl gsz36 ?_
 refine VL.back (D' := []) (by kernel_rfl) (Pend.nil) ?_
 refine VD.to (fun _ _ h => h) ?_
 refine VC.keep (ρ' := [(4, ptr b4_1 0), (8, ptr b8_2 0)]) [4, 8] rfl ?_
 refine Zq (Zr ?_)
 refine Zu (q_fes gagg41 rfl rfl) ?_
 refine Zu (q_field gfa41_1 rfl) ?_
 refine Zu (q_fe gone36 rfl rfl) ?_
 refine Zu (q_lnm StateCommit.pl (s := s19_5) Tryz.underlying36 rfl) ?_
 refine VL.shut s19_5 58 (fun h m => InM.out (X := MAl s19_5.l) h m) ?_
 obtain ⟨y25_7, ey25_7, hS⟩ := bd_s hS
 refine VL.callF (repo_move_ct (⟨s_0.now_work, s_0.now_index, s_0.now_refs, s_0.now_head_branch, s_0.now_head_commit, s_0.now_seq_kind, s_0.now_seq_other, s_0.now_seq_text, s_0.now_seq_doing, s_0.now_seq_todo, s_0.now_seq_made, s_0.now_seq_branch, s_0.now_seq_head_branch, s_0.now_seq_head_commit, s_0.now_seq_index, s_0.now_seq_work, s_0.now_stash, s19_5, s_0.log_back, s_0.log_forth, s_0.time⟩ : StateState) ((s19_5.l.map StateCommit.pl).length : Int) ey25_7) rfl (by decide) ?_
 rintro q25_7_0 rfl
 try dsimp only
 refine Zv (vc := (zStateState q25_7_0)) (cs' := (zStateState q25_7_0)) rfl gsz41 ?_
 refine Zl ?_
 cases hS
 exact VC.ret (finG (vs := [.agg (zStateState q25_7_0).toArray]) (.inr rfl) rfl (RVs.cell gagg41 rfl rfl Rd.blk (RVs.nil)) q25_7_0 rfl rfl (by (try dsimp only); exact InM.out) (fun _ _ => trivial))
theorem repo_record_ct (s_0 : StateState) (tree_1 : Sv FilesFile) (text_2 : Str) {r : StateStateP × Err} (hS : Sh.repo_record s_0.pl tree_1.l text_2 = some r) :
 Ct Tryz.prog 120 [.agg (zStateState s_0).toArray, tree_1.val, str text_2] (s_0.now_work.ok.and (s_0.now_index.ok.and (s_0.now_refs.ok.and (s_0.now_seq_doing.ok.and (s_0.now_seq_todo.ok.and (s_0.now_seq_index.ok.and (s_0.now_seq_work.ok.and (s_0.now_stash.ok.and (s_0.commits.ok.and (s_0.log_back.ok.and (s_0.log_forth.ok.and tree_1.ok))))))))))) (Ow.emp) (X := StateState × Er) (fun x => .tuple #[.agg (Dat.enc x.1).toArray, x.2.val]) (fun x => r = (x.1.pl, x.2.pl)) (fun x => (x.1.m.and x.2.ok)) (fun x => Ow.emp) := by
 refine Zo Tryz.func120 Tryz.ntmps120 fun c => ?_
 unfold Sh.repo_record at hS
 refine Zq (Zr ?_)
 refine VL.box (cs := (zStateState s_0)) rfl rfl (by decide) fun b3_1 => ?_
 refine VL.alloc (cs := [.slice none 0 0, .slice none 0 0, .slice none 0 0, str [], i64 0, str [], i64 0, str [], .slice none 0 0, .slice none 0 0, i64 0, str [], str [], i64 0, .slice none 0 0, .slice none 0 0, .slice none 0 0, .slice none 0 0, .slice none 0 0, .slice none 0 0, i64 0]) (by kernel_rfl) (by decide) fun b6_2 => ?_
 refine Zy ?_
 refine Zq (Zq (Zr ?_))
 refine Zm ?_
 obtain ⟨y12_3, ey12_3, hS⟩ := bd_s hS
 refine VL.callF (files_Row_Check_ct tree_1 ey12_3) rfl (by decide) ?_
 rintro q12_3_0 rfl
 try dsimp only
 refine Zy ?_
 refine Zq (Zr ?_)
 refine Zm ?_
 refine Zu (q_erne Tryz.underlying45 rfl) ?_
 refine Zl ?_
 refine Zcn hS (fun h14 hS => ?_) (fun h14 hS => ?_)
 ·
  refine Zq ?_
  cases hS
 refine Zk ?_
 refine VC.keep (ρ' := [(1, tree_1.val), (2, str text_2), (3, ptr b3_1 0), (6, ptr b6_2 0)]) [1, 2, 3, 6] rfl ?_
 refine Zq (Zq (Zr ?_))
 refine Zu (q_fes gagg41 rfl rfl) ?_
 obtain ⟨y19_4, ey19_4, hS⟩ := bd_s hS
 refine Zu (q_call (repo_room_ct s_0 ey19_4) rfl (fun _ _ => rfl)) ?_
 refine Zu (q_not rfl) ?_
 refine Zl ?_
 refine Zcb hS (fun h20 hS => ?_) (fun h20 hS => ?_)
 ·
  refine Zq ?_
  cases hS
 refine Zk ?_
 refine Zq (Zr ?_)
 refine Zy ?_
 refine Zq (Zq (Zr ?_))
 refine Zu (q_field gfa41_0 rfl) ?_
 refine Zu (q_field gfa35_4 rfl) ?_
 refine Zu (q_field gfa31_0 rfl) ?_
 refine Zu (q_fe gone9 rfl rfl) ?_
 refine Zy ?_
 refine VC.keep (ρ' := [(1, tree_1.val), (2, str text_2), (3, ptr b3_1 0), (6, ptr b6_2 0), (9, i64 0), (27, .bool (decide (s_0.now_seq_kind = [109, 101, 114, 103, 101])))]) [1, 2, 3, 6, 9, 27] rfl ?_
 refine Zc hS (fun h27 hS => ?_) (fun h27 hS => ?_)
 ·
  cases hS
 refine Zk ?_
 refine Zq ?_
 refine VC.drawG (n := 4) (listed := #[true, true, true, true, false, true, false, false, false]) [(0, true), (1, true), (2, true), (3, true), (5, true)] mixed (by kernel_rfl) (by kernel_rfl) (by kernel_rfl) (by kernel_rfl) ?_
 refine VD.q rfl (q_fes gagg41 rfl rfl) (by decide) ?_
 refine VD.q rfl (q_move rfl) (by decide) ?_
 refine VD.q rfl (q_fes gagg41 rfl rfl) (by decide) ?_
 refine VD.q rfl (q_move rfl) (by decide) ?_
 refine VD.q rfl (q_move rfl) (by decide) ?_
 obtain ⟨y36_5, ey36_5, hS⟩ := bd_s hS
 obtain ⟨y38_6, ey38_6, hS⟩ := bd_s hS
 refine VD.toG fun hcl => ?_
 refine VG.fork (l := [4, 7]) (n := 3) (by kernel_rfl) rfl fun i hi => ?_
 obtain rfl | rfl : i = 4 ∨ i = 7 := by simpa using hi
 ·
  refine VGo.of rfl ?_
  refine VL.callO (repo_parents_ct s_0 0 ey36_5) rfl (by decide) ?_
  rintro q36_7041_0 rfl
  try dsimp only
  refine VL.backX (D' := [(0, .agg (zStateState s_0).toArray)]) (listed' := #[true, true, true, true, true, true, false, false, false]) (Pend.cons rfl (q_fes gagg41 rfl rfl) (Pend.nil)) (by kernel_rfl) (by kernel_rfl) ?_
  refine VG.fork (l := [6, 7]) (n := 2) (by kernel_rfl) rfl fun i hi => ?_
  obtain rfl | rfl : i = 6 ∨ i = 7 := by simpa using hi
  ·
   refine VGo.of rfl ?_
   refine VL.shut q36_7041_0 3 (fun _ _ _ _ => trivial) ?_
   refine VL.callF (repo_made_ct s_0 tree_1 q36_7041_0 text_2 ey38_6) rfl (by decide) ?_
   rintro q38_7061_0 rfl
   try dsimp only
   refine VL.backX (D' := []) (listed' := #[true, true, true, true, true, true, true, false, false]) (Pend.nil) (by kernel_rfl) (by kernel_rfl) ?_
   refine VG.ord [(7, false), (8, false)] (by kernel_rfl) (closed_of (by kernel_rfl)) (by kernel_rfl) ?_
   refine VD.one rfl ?_
   refine VL.alloc (cs := [.slice none 0 0, .slice none 0 0, .slice none 0 0, str [], i64 0, str [], i64 0, str [], .slice none 0 0, .slice none 0 0, i64 0, str [], str [], i64 0, .slice none 0 0, .slice none 0 0, .slice none 0 0, .slice none 0 0, .slice none 0 0, .slice none 0 0, i64 0]) (by kernel_rfl) (by decide) fun b10_7071 => ?_
   refine VL.back (D' := []) (by kernel_rfl) (Pend.nil) ?_
   refine VD.one rfl ?_
   refine Zv (vc := (zStateState q38_7061_0)) (cs' := (zStateState q38_7061_0)) rfl gsz41 ?_
   refine VL.back (D' := []) (by kernel_rfl) (Pend.nil) ?_
   refine VD.to (fun _ _ h => h) ?_
   refine VC.keep (ρ' := [(6, ptr b6_2 0), (10, ptr b10_7071 0)]) [6, 10] rfl ?_
   refine Zq (Zq (Zr ?_))
   refine Zu (q_field gfa41_0 rfl) ?_
   refine Zu (q_field gfa35_4 rfl) ?_
   refine Zu (q_field gfa31_0 rfl) ?_
   refine Zu (q_fe gone9 rfl rfl) ?_
   refine Zu (q_sne rfl rfl) ?_
   refine Zl ?_
   refine Zcn hS (fun h43 hS => ?_) (fun h43 hS => ?_)
   ·
    refine Zr ?_
    refine Zu (q_build (vs := []) (cs := #[str [], i64 0, str [], .slice none 0 0, .slice none 0 0, i64 0, str [], str [], i64 0, .slice none 0 0, .slice none 0 0]) rfl (by kernel_rfl)) ?_
    refine Zu (q_field gfa41_0 rfl) ?_
    refine Zu (q_field gfa35_4 rfl) ?_
    refine Zv (vc := [str [], i64 0, str [], .slice none 0 0, .slice none 0 0, i64 0, str [], str [], i64 0, .slice none 0 0, .slice none 0 0]) (cs' := [q38_7061_0.now_work.val, q38_7061_0.now_index.val, q38_7061_0.now_refs.val, str q38_7061_0.now_head_branch, i64 q38_7061_0.now_head_commit, str [], i64 0, str [], .slice none 0 0, .slice none 0 0, i64 0, str [], str [], i64 0, .slice none 0 0, .slice none 0 0, q38_7061_0.now_stash.val, q38_7061_0.commits.val, q38_7061_0.log_back.val, q38_7061_0.log_forth.val, i64 q38_7061_0.time]) rfl gsz31 ?_
    refine Zl ?_
    refine Zq (Zr ?_)
    refine Zu (q_fes gagg41 rfl rfl) ?_
    refine Zv (vc := [q38_7061_0.now_work.val, q38_7061_0.now_index.val, q38_7061_0.now_refs.val, str q38_7061_0.now_head_branch, i64 q38_7061_0.now_head_commit, str [], i64 0, str [], .slice none 0 0, .slice none 0 0, i64 0, str [], str [], i64 0, .slice none 0 0, .slice none 0 0, q38_7061_0.now_stash.val, q38_7061_0.commits.val, q38_7061_0.log_back.val, q38_7061_0.log_forth.val, i64 q38_7061_0.time]) (cs' := [q38_7061_0.now_work.val, q38_7061_0.now_index.val, q38_7061_0.now_refs.val, str q38_7061_0.now_head_branch, i64 q38_7061_0.now_head_commit, str [], i64 0, str [], .slice none 0 0, .slice none 0 0, i64 0, str [], str [], i64 0, .slice none 0 0, .slice none 0 0, q38_7061_0.now_stash.val, q38_7061_0.commits.val, q38_7061_0.log_back.val, q38_7061_0.log_forth.val, i64 q38_7061_0.time]) rfl gsz41 ?_
    refine Zy ?_
    refine VC.keep (ρ' := [(6, ptr b6_2 0), (7, .nilIface)]) [6, 7] rfl ?_
    cases hS
    exact VC.ret (finG (vs := [.agg #[q38_7061_0.now_work.val, q38_7061_0.now_index.val, q38_7061_0.now_refs.val, str q38_7061_0.now_head_branch, i64 q38_7061_0.now_head_commit, str [], i64 0, str [], .slice none 0 0, .slice none 0 0, i64 0, str [], str [], i64 0, .slice none 0 0, .slice none 0 0, q38_7061_0.now_stash.val, q38_7061_0.commits.val, q38_7061_0.log_back.val, q38_7061_0.log_forth.val, i64 q38_7061_0.time], .nilIface]) (.inr rfl) rfl (RVs.cell gagg41 rfl rfl Rd.blk (RVs.tmp rfl (RVs.nil))) (⟨q38_7061_0.now_work, q38_7061_0.now_index, q38_7061_0.now_refs, q38_7061_0.now_head_branch, q38_7061_0.now_head_commit, [], 0, [], ⟨none, 0, []⟩, ⟨none, 0, []⟩, 0, [], [], 0, ⟨none, 0, []⟩, ⟨none, 0, []⟩, q38_7061_0.now_stash, q38_7061_0.commits, q38_7061_0.log_back, q38_7061_0.log_forth, q38_7061_0.time⟩, .nil) rfl rfl (by (try dsimp only); exact InM.out) (fun _ _ => trivial))
   refine Zk ?_
   refine Zq (Zr ?_)
   refine Zu (q_fes gagg41 rfl rfl) ?_
   refine Zv (vc := (zStateState q38_7061_0)) (cs' := (zStateState q38_7061_0)) rfl gsz41 ?_
   refine Zy ?_
   cases hS
   exact VC.ret (finG (vs := [.agg (zStateState q38_7061_0).toArray, .nilIface]) (.inr rfl) rfl (RVs.cell gagg41 rfl rfl Rd.blk (RVs.tmp rfl (RVs.nil))) (q38_7061_0, .nil) rfl rfl (by (try dsimp only); exact InM.out) (fun _ _ => trivial))
  refine VGo.of rfl ?_
  refine VL.alloc (cs := [.slice none 0 0, .slice none 0 0, .slice none 0 0, str [], i64 0, str [], i64 0, str [], .slice none 0 0, .slice none 0 0, i64 0, str [], str [], i64 0, .slice none 0 0, .slice none 0 0, .slice none 0 0, .slice none 0 0, .slice none 0 0, .slice none 0 0, i64 0]) (by kernel_rfl) (by decide) fun b10_7071 => ?_
  refine VL.backX (D' := [(0, .agg (zStateState s_0).toArray)]) (listed' := #[true, true, true, true, true, true, false, true, false]) (Pend.cons rfl (q_fes gagg41 rfl rfl) (Pend.nil)) (by kernel_rfl) (by kernel_rfl) ?_
  refine VG.ord [(6, false), (8, false)] (by kernel_rfl) (closed_of (by kernel_rfl)) (by kernel_rfl) ?_
  refine VD.one rfl ?_
  refine VL.shut q36_7041_0 3 (fun _ _ _ _ => trivial) ?_
  refine VL.callF (repo_made_ct s_0 tree_1 q36_7041_0 text_2 ey38_6) rfl (by decide) ?_
  rintro q38_7061_0 rfl
  try dsimp only
  refine VL.back (D' := []) (by kernel_rfl) (Pend.nil) ?_
  refine VD.one rfl ?_
  refine Zv (vc := (zStateState q38_7061_0)) (cs' := (zStateState q38_7061_0)) rfl gsz41 ?_
  refine VL.back (D' := []) (by kernel_rfl) (Pend.nil) ?_
  refine VD.to (fun _ _ h => h) ?_
  refine VC.keep (ρ' := [(6, ptr b6_2 0), (10, ptr b10_7071 0)]) [6, 10] rfl ?_
  refine Zq (Zq (Zr ?_))
  refine Zu (q_field gfa41_0 rfl) ?_
  refine Zu (q_field gfa35_4 rfl) ?_
  refine Zu (q_field gfa31_0 rfl) ?_
  refine Zu (q_fe gone9 rfl rfl) ?_
  refine Zu (q_sne rfl rfl) ?_
  refine Zl ?_
  refine Zcn hS (fun h43 hS => ?_) (fun h43 hS => ?_)
  ·
   refine Zr ?_
   refine Zu (q_build (vs := []) (cs := #[str [], i64 0, str [], .slice none 0 0, .slice none 0 0, i64 0, str [], str [], i64 0, .slice none 0 0, .slice none 0 0]) rfl (by kernel_rfl)) ?_
   refine Zu (q_field gfa41_0 rfl) ?_
   refine Zu (q_field gfa35_4 rfl) ?_
   refine Zv (vc := [str [], i64 0, str [], .slice none 0 0, .slice none 0 0, i64 0, str [], str [], i64 0, .slice none 0 0, .slice none 0 0]) (cs' := [q38_7061_0.now_work.val, q38_7061_0.now_index.val, q38_7061_0.now_refs.val, str q38_7061_0.now_head_branch, i64 q38_7061_0.now_head_commit, str [], i64 0, str [], .slice none 0 0, .slice none 0 0, i64 0, str [], str [], i64 0, .slice none 0 0, .slice none 0 0, q38_7061_0.now_stash.val, q38_7061_0.commits.val, q38_7061_0.log_back.val, q38_7061_0.log_forth.val, i64 q38_7061_0.time]) rfl gsz31 ?_
   refine Zl ?_
   refine Zq (Zr ?_)
   refine Zu (q_fes gagg41 rfl rfl) ?_
   refine Zv (vc := [q38_7061_0.now_work.val, q38_7061_0.now_index.val, q38_7061_0.now_refs.val, str q38_7061_0.now_head_branch, i64 q38_7061_0.now_head_commit, str [], i64 0, str [], .slice none 0 0, .slice none 0 0, i64 0, str [], str [], i64 0, .slice none 0 0, .slice none 0 0, q38_7061_0.now_stash.val, q38_7061_0.commits.val, q38_7061_0.log_back.val, q38_7061_0.log_forth.val, i64 q38_7061_0.time]) (cs' := [q38_7061_0.now_work.val, q38_7061_0.now_index.val, q38_7061_0.now_refs.val, str q38_7061_0.now_head_branch, i64 q38_7061_0.now_head_commit, str [], i64 0, str [], .slice none 0 0, .slice none 0 0, i64 0, str [], str [], i64 0, .slice none 0 0, .slice none 0 0, q38_7061_0.now_stash.val, q38_7061_0.commits.val, q38_7061_0.log_back.val, q38_7061_0.log_forth.val, i64 q38_7061_0.time]) rfl gsz41 ?_
   refine Zy ?_
   refine VC.keep (ρ' := [(6, ptr b6_2 0), (7, .nilIface)]) [6, 7] rfl ?_
   cases hS
   exact VC.ret (finG (vs := [.agg #[q38_7061_0.now_work.val, q38_7061_0.now_index.val, q38_7061_0.now_refs.val, str q38_7061_0.now_head_branch, i64 q38_7061_0.now_head_commit, str [], i64 0, str [], .slice none 0 0, .slice none 0 0, i64 0, str [], str [], i64 0, .slice none 0 0, .slice none 0 0, q38_7061_0.now_stash.val, q38_7061_0.commits.val, q38_7061_0.log_back.val, q38_7061_0.log_forth.val, i64 q38_7061_0.time], .nilIface]) (.inr rfl) rfl (RVs.cell gagg41 rfl rfl Rd.blk (RVs.tmp rfl (RVs.nil))) (⟨q38_7061_0.now_work, q38_7061_0.now_index, q38_7061_0.now_refs, q38_7061_0.now_head_branch, q38_7061_0.now_head_commit, [], 0, [], ⟨none, 0, []⟩, ⟨none, 0, []⟩, 0, [], [], 0, ⟨none, 0, []⟩, ⟨none, 0, []⟩, q38_7061_0.now_stash, q38_7061_0.commits, q38_7061_0.log_back, q38_7061_0.log_forth, q38_7061_0.time⟩, .nil) rfl rfl (by (try dsimp only); exact InM.out) (fun _ _ => trivial))
  refine Zk ?_
  refine Zq (Zr ?_)
  refine Zu (q_fes gagg41 rfl rfl) ?_
  refine Zv (vc := (zStateState q38_7061_0)) (cs' := (zStateState q38_7061_0)) rfl gsz41 ?_
  refine Zy ?_
  cases hS
  exact VC.ret (finG (vs := [.agg (zStateState q38_7061_0).toArray, .nilIface]) (.inr rfl) rfl (RVs.cell gagg41 rfl rfl Rd.blk (RVs.tmp rfl (RVs.nil))) (q38_7061_0, .nil) rfl rfl (by (try dsimp only); exact InM.out) (fun _ _ => trivial))
 refine VGo.of rfl ?_
 refine VL.alloc (cs := [.slice none 0 0, .slice none 0 0, .slice none 0 0, str [], i64 0, str [], i64 0, str [], .slice none 0 0, .slice none 0 0, i64 0, str [], str [], i64 0, .slice none 0 0, .slice none 0 0, .slice none 0 0, .slice none 0 0, .slice none 0 0, .slice none 0 0, i64 0]) (by kernel_rfl) (by decide) fun b10_7071 => ?_
 refine VL.backX (D' := [(2, .agg (zStateState s_0).toArray), (0, .agg (zStateState s_0).toArray)]) (listed' := #[true, true, true, true, false, true, false, true, false]) (Pend.cons rfl (q_fes gagg41 rfl rfl) (Pend.cons rfl (q_fes gagg41 rfl rfl) (Pend.nil))) (by kernel_rfl) (by kernel_rfl) ?_
 refine VG.ord [(4, false), (6, false), (8, false)] (by kernel_rfl) (closed_of (by kernel_rfl)) (by kernel_rfl) ?_
 refine VD.one rfl ?_
 refine VL.callO (repo_parents_ct s_0 0 ey36_5) rfl (by decide) ?_
 rintro q36_7041_0 rfl
 try dsimp only
 refine VL.back (D' := [(0, .agg (zStateState s_0).toArray)]) (by kernel_rfl) (Pend.cons rfl (q_fes gagg41 rfl rfl) (Pend.nil)) ?_
 refine VD.one rfl ?_
 refine VL.shut q36_7041_0 3 (fun _ _ _ _ => trivial) ?_
 refine VL.callF (repo_made_ct s_0 tree_1 q36_7041_0 text_2 ey38_6) rfl (by decide) ?_
 rintro q38_7061_0 rfl
 try dsimp only
 refine VL.back (D' := []) (by kernel_rfl) (Pend.nil) ?_
 refine VD.one rfl ?_
 refine Zv (vc := (zStateState q38_7061_0)) (cs' := (zStateState q38_7061_0)) rfl gsz41 ?_
 refine VL.back (D' := []) (by kernel_rfl) (Pend.nil) ?_
 refine VD.to (fun _ _ h => h) ?_
 refine VC.keep (ρ' := [(6, ptr b6_2 0), (10, ptr b10_7071 0)]) [6, 10] rfl ?_
 refine Zq (Zq (Zr ?_))
 refine Zu (q_field gfa41_0 rfl) ?_
 refine Zu (q_field gfa35_4 rfl) ?_
 refine Zu (q_field gfa31_0 rfl) ?_
 refine Zu (q_fe gone9 rfl rfl) ?_
 refine Zu (q_sne rfl rfl) ?_
 refine Zl ?_
 refine Zcn hS (fun h43 hS => ?_) (fun h43 hS => ?_)
 ·
  refine Zr ?_
  refine Zu (q_build (vs := []) (cs := #[str [], i64 0, str [], .slice none 0 0, .slice none 0 0, i64 0, str [], str [], i64 0, .slice none 0 0, .slice none 0 0]) rfl (by kernel_rfl)) ?_
  refine Zu (q_field gfa41_0 rfl) ?_
  refine Zu (q_field gfa35_4 rfl) ?_
  refine Zv (vc := [str [], i64 0, str [], .slice none 0 0, .slice none 0 0, i64 0, str [], str [], i64 0, .slice none 0 0, .slice none 0 0]) (cs' := [q38_7061_0.now_work.val, q38_7061_0.now_index.val, q38_7061_0.now_refs.val, str q38_7061_0.now_head_branch, i64 q38_7061_0.now_head_commit, str [], i64 0, str [], .slice none 0 0, .slice none 0 0, i64 0, str [], str [], i64 0, .slice none 0 0, .slice none 0 0, q38_7061_0.now_stash.val, q38_7061_0.commits.val, q38_7061_0.log_back.val, q38_7061_0.log_forth.val, i64 q38_7061_0.time]) rfl gsz31 ?_
  refine Zl ?_
  refine Zq (Zr ?_)
  refine Zu (q_fes gagg41 rfl rfl) ?_
  refine Zv (vc := [q38_7061_0.now_work.val, q38_7061_0.now_index.val, q38_7061_0.now_refs.val, str q38_7061_0.now_head_branch, i64 q38_7061_0.now_head_commit, str [], i64 0, str [], .slice none 0 0, .slice none 0 0, i64 0, str [], str [], i64 0, .slice none 0 0, .slice none 0 0, q38_7061_0.now_stash.val, q38_7061_0.commits.val, q38_7061_0.log_back.val, q38_7061_0.log_forth.val, i64 q38_7061_0.time]) (cs' := [q38_7061_0.now_work.val, q38_7061_0.now_index.val, q38_7061_0.now_refs.val, str q38_7061_0.now_head_branch, i64 q38_7061_0.now_head_commit, str [], i64 0, str [], .slice none 0 0, .slice none 0 0, i64 0, str [], str [], i64 0, .slice none 0 0, .slice none 0 0, q38_7061_0.now_stash.val, q38_7061_0.commits.val, q38_7061_0.log_back.val, q38_7061_0.log_forth.val, i64 q38_7061_0.time]) rfl gsz41 ?_
  refine Zy ?_
  refine VC.keep (ρ' := [(6, ptr b6_2 0), (7, .nilIface)]) [6, 7] rfl ?_
  cases hS
  exact VC.ret (finG (vs := [.agg #[q38_7061_0.now_work.val, q38_7061_0.now_index.val, q38_7061_0.now_refs.val, str q38_7061_0.now_head_branch, i64 q38_7061_0.now_head_commit, str [], i64 0, str [], .slice none 0 0, .slice none 0 0, i64 0, str [], str [], i64 0, .slice none 0 0, .slice none 0 0, q38_7061_0.now_stash.val, q38_7061_0.commits.val, q38_7061_0.log_back.val, q38_7061_0.log_forth.val, i64 q38_7061_0.time], .nilIface]) (.inr rfl) rfl (RVs.cell gagg41 rfl rfl Rd.blk (RVs.tmp rfl (RVs.nil))) (⟨q38_7061_0.now_work, q38_7061_0.now_index, q38_7061_0.now_refs, q38_7061_0.now_head_branch, q38_7061_0.now_head_commit, [], 0, [], ⟨none, 0, []⟩, ⟨none, 0, []⟩, 0, [], [], 0, ⟨none, 0, []⟩, ⟨none, 0, []⟩, q38_7061_0.now_stash, q38_7061_0.commits, q38_7061_0.log_back, q38_7061_0.log_forth, q38_7061_0.time⟩, .nil) rfl rfl (by (try dsimp only); exact InM.out) (fun _ _ => trivial))
 refine Zk ?_
 refine Zq (Zr ?_)
 refine Zu (q_fes gagg41 rfl rfl) ?_
 refine Zv (vc := (zStateState q38_7061_0)) (cs' := (zStateState q38_7061_0)) rfl gsz41 ?_
 refine Zy ?_
 cases hS
 exact VC.ret (finG (vs := [.agg (zStateState q38_7061_0).toArray, .nilIface]) (.inr rfl) rfl (RVs.cell gagg41 rfl rfl Rd.blk (RVs.tmp rfl (RVs.nil))) (q38_7061_0, .nil) rfl rfl (by (try dsimp only); exact InM.out) (fun _ _ => trivial))
theorem repo_commit_ct (s_0 : StateState) (text_1 : Str) {r : StateStateP × Err} (hS : Sh.repo_commit s_0.pl text_1 = some r) :
 Ct Tryz.prog 62 [.agg (zStateState s_0).toArray, str text_1] (s_0.now_work.ok.and (s_0.now_index.ok.and (s_0.now_refs.ok.and (s_0.now_seq_doing.ok.and (s_0.now_seq_todo.ok.and (s_0.now_seq_index.ok.and (s_0.now_seq_work.ok.and (s_0.now_stash.ok.and (s_0.commits.ok.and (s_0.log_back.ok.and s_0.log_forth.ok)))))))))) (Ow.emp) (X := StateState × Er) (fun x => .tuple #[.agg (Dat.enc x.1).toArray, x.2.val]) (fun x => r = (x.1.pl, x.2.pl)) (fun x => (x.1.m.and x.2.ok)) (fun x => Ow.emp) := by
 refine Zo Tryz.func62 Tryz.ntmps62 fun c => ?_
 unfold Sh.repo_commit at hS
 refine Zq (Zr ?_)
 refine VL.box (cs := (zStateState s_0)) rfl rfl (by decide) fun b2_1 => ?_
 refine VL.alloc (cs := [.slice none 0 0, .slice none 0 0, .slice none 0 0, str [], i64 0, str [], i64 0, str [], .slice none 0 0, .slice none 0 0, i64 0, str [], str [], i64 0, .slice none 0 0, .slice none 0 0, .slice none 0 0, .slice none 0 0, .slice none 0 0, .slice none 0 0, i64 0]) (by kernel_rfl) (by decide) fun b4_2 => ?_
 refine Zy ?_
 refine Zq (Zr ?_)
 refine Zu (q_field gfa41_0 rfl) ?_
 refine Zu (q_field gfa35_1 rfl) ?_
 refine Zu (q_fe gone25 rfl rfl) ?_
 obtain ⟨y10_3, ey10_3, hS⟩ := bd_s hS
 refine VL.callF (index_Stage_ct s_0.now_index 0 ey10_3) rfl (by decide) ?_
 rintro q10_3_0 rfl
 try dsimp only
 refine Zy ?_
 refine Zq (Zb (Zq (Zr ?_)))
 refine Zu (q_field gfa41_0 rfl) ?_
 refine Zu (q_field gfa35_1 rfl) ?_
 refine Zu (q_fe gone25 rfl rfl) ?_
 obtain ⟨y15_4, ey15_4, hS⟩ := bd_s hS
 refine VL.callF (index_Conflicts_ct s_0.now_index ey15_4) rfl (by decide) ?_
 rintro q15_4_0 rfl
 try dsimp only
 refine Zu (q_ln (s := q15_4_0) Tryz.underlying37 rfl) ?_
 refine Zu (q_gtr rfl rfl) ?_
 refine Zy ?_
 refine VC.keep (ρ' := [(1, str text_1), (2, ptr b2_1 0), (4, ptr b4_2 0), (6, q10_3_0.val), (11, .bool (decide (0 < (q15_4_0.l.length : Int))))]) [1, 2, 4, 6, 11] rfl ?_
 refine Zc hS (fun h11 hS => ?_) (fun h11 hS => ?_)
 ·
  refine Zq ?_
  cases hS
 refine VC.cutJ (S := Bool) (fun (x20_5 : Bool) => x20_5) (fun (x20_5 : Bool) => [(1, str text_1), (2, ptr b2_1 0), (4, ptr b4_2 0), (6, q10_3_0.val), (20, .bool x20_5)]) (fun (x20_5 : Bool) => Mo.tt) (fun (x20_5 : Bool) => Ow.star (Blk b4_2 [.slice none 0 0, .slice none 0 0, .slice none 0 0, str [], i64 0, str [], i64 0, str [], .slice none 0 0, .slice none 0 0, i64 0, str [], str [], i64 0, .slice none 0 0, .slice none 0 0, .slice none 0 0, .slice none 0 0, .slice none 0 0, .slice none 0 0, i64 0] 41) (Ow.star (Blk b2_1 (zStateState s_0) 41) (Ow.emp))) hS ?_ ?_
 ·
  clear hS
  intro k6 hS
  refine Zr ?_
  refine Zu (q_field gfa41_0 rfl) ?_
  refine Zu (q_field gfa35_4 rfl) ?_
  refine Zu (q_field gfa31_0 rfl) ?_
  refine Zu (q_fe gone9 rfl rfl) ?_
  refine Zy ?_
  refine Zsp 26 hS (fun h26 hS => ?_) (fun h26 hS => ?_)
  ·
   refine Zh (q_field gfa41_0 rfl) ?_
   refine Zh (q_field gfa35_4 rfl) ?_
   refine Zh (q_field gfa31_3 rfl) ?_
   refine Zh (q_fe gone29 rfl rfl) ?_
   refine Zh (q_ln (s := s_0.now_seq_doing) Tryz.underlying29 rfl) ?_
   refine Zh (q_gtr rfl rfl) ?_
   refine Zy ?_
   refine VL.mt (decide (0 < (s_0.now_seq_doing.l.length : Int))) [1, 2, 4, 6, 20] (fun _ _ h => h) hS rfl
  refine VL.skips 6 [32] (by kernel_rfl) ?_
  refine Zy ?_
  refine VL.mt false [1, 2, 4, 6, 20] (fun _ _ h => h) hS rfl
 clear hS
 rintro x20_5 hS
 refine Zcb hS (fun h20 hS => ?_) (fun h20 hS => ?_)
 ·
  refine Zq ?_
  cases hS
 refine VC.cutJ (S := Bool) (fun (x36_7 : Bool) => x36_7) (fun (x36_7 : Bool) => [(1, str text_1), (2, ptr b2_1 0), (4, ptr b4_2 0), (6, q10_3_0.val), (36, .bool x36_7)]) (fun (x36_7 : Bool) => Mo.tt) (fun (x36_7 : Bool) => Ow.star (Blk b4_2 [.slice none 0 0, .slice none 0 0, .slice none 0 0, str [], i64 0, str [], i64 0, str [], .slice none 0 0, .slice none 0 0, i64 0, str [], str [], i64 0, .slice none 0 0, .slice none 0 0, .slice none 0 0, .slice none 0 0, .slice none 0 0, .slice none 0 0, i64 0] 41) (Ow.star (Blk b2_1 (zStateState s_0) 41) (Ow.emp))) hS ?_ ?_
 ·
  clear hS
  intro k8 hS
  refine Zr ?_
  refine Zu (q_field gfa41_0 rfl) ?_
  refine Zu (q_field gfa35_4 rfl) ?_
  refine Zu (q_field gfa31_0 rfl) ?_
  refine Zu (q_fe gone9 rfl rfl) ?_
  refine Zu (q_sne rfl rfl) ?_
  refine Zm ?_
  refine Zspn 42 hS (fun h42 hS => ?_) (fun h42 hS => ?_)
  ·
   refine Zg ?_
   refine Zh (q_fes gagg41 rfl rfl) ?_
   refine VL.guard rfl rfl ?_
   obtain ⟨y45_9, ey45_9, hS⟩ := bd_s hS
   refine VL.callF (repo_head_ct s_0 ey45_9) rfl (by decide) ?_
   rintro q45_9_0 rfl
   try dsimp only
   obtain ⟨y46_10, ey46_10, hS⟩ := bd_s hS
   refine Zh (q_call (files_Row_Same_ct q10_3_0 q45_9_0 ey46_10) rfl (fun _ _ => rfl)) ?_
   refine Zy ?_
   refine VL.mt y46_10 [1, 2, 4, 6, 36] (fun _ _ h => h) hS rfl
  refine VL.skips 4 [46] (by kernel_rfl) ?_
  refine Zy ?_
  refine VL.mt false [1, 2, 4, 6, 36] (fun _ _ h => h) hS rfl
 clear hS
 rintro x36_7 hS
 refine Zcb hS (fun h36 hS => ?_) (fun h36 hS => ?_)
 ·
  refine Zq ?_
  cases hS
 refine Zk ?_
 refine Zq (Zr ?_)
 refine Zu (q_fes gagg41 rfl rfl) ?_
 refine Zy ?_
 obtain ⟨y53_11, ey53_11, hS⟩ := bd_s hS
 refine VL.callF (repo_record_ct s_0 q10_3_0 text_1 ey53_11) rfl (by decide) ?_
 rintro ⟨q53_11_0, q53_11_1⟩ rfl
 try dsimp only
 refine Zu (q_extract rfl rfl) ?_
 refine Zu (q_extract rfl rfl) ?_
 refine Zv (vc := (zStateState q53_11_0)) (cs' := (zStateState q53_11_0)) rfl gsz41 ?_
 refine Zy ?_
 refine VC.keep (ρ' := [(4, ptr b4_2 0), (5, q53_11_1.val)]) [4, 5] rfl ?_
 cases hS
 exact VC.ret (finG (vs := [.agg (zStateState q53_11_0).toArray, q53_11_1.val]) (.inr rfl) rfl (RVs.cell gagg41 rfl rfl Rd.blk (RVs.tmp rfl (RVs.nil))) (q53_11_0, q53_11_1) rfl rfl (by (try dsimp only); exact InM.out) (fun _ _ => trivial))
theorem repo_branch_ct (s_0 : StateState) (name_1 : Str) {r : StateStateP × Err} (hS : Sh.repo_branch s_0.pl name_1 = some r) :
 Ct Tryz.prog 128 [.agg (zStateState s_0).toArray, str name_1] (s_0.now_work.ok.and (s_0.now_index.ok.and (s_0.now_refs.ok.and (s_0.now_seq_doing.ok.and (s_0.now_seq_todo.ok.and (s_0.now_seq_index.ok.and (s_0.now_seq_work.ok.and (s_0.now_stash.ok.and (s_0.commits.ok.and (s_0.log_back.ok.and s_0.log_forth.ok)))))))))) (Ow.emp) (X := StateState × Er) (fun x => .tuple #[.agg (Dat.enc x.1).toArray, x.2.val]) (fun x => r = (x.1.pl, x.2.pl)) (fun x => (x.1.m.and x.2.ok)) (fun x => Ow.emp) := by
 refine Zo Tryz.func128 Tryz.ntmps128 fun c => ?_
 unfold Sh.repo_branch at hS
 refine Zq (Zr ?_)
 refine VL.box (cs := (zStateState s_0)) rfl rfl (by decide) fun b2_1 => ?_
 refine VL.alloc (cs := [.slice none 0 0, .slice none 0 0, .slice none 0 0, str [], i64 0, str [], i64 0, str [], .slice none 0 0, .slice none 0 0, i64 0, str [], str [], i64 0, .slice none 0 0, .slice none 0 0, .slice none 0 0, .slice none 0 0, .slice none 0 0, .slice none 0 0, i64 0]) (by kernel_rfl) (by decide) fun b4_2 => ?_
 refine Zy ?_
 refine Zq (Zr ?_)
 refine Zu (q_fes gagg41 rfl rfl) ?_
 refine Zm ?_
 obtain ⟨y11_3, ey11_3, hS⟩ := bd_s hS
 refine Zu (q_call (repo_find_ct s_0 name_1 ey11_3) rfl (fun _ _ => rfl)) ?_
 refine Zm ?_
 refine Zu (q_extract rfl rfl) ?_
 refine Zu (q_extract rfl rfl) ?_
 refine Zy ?_
 refine VC.keep (ρ' := [(1, str name_1), (2, ptr b2_1 0), (4, ptr b4_2 0), (7, .bool y11_3.2)]) [1, 2, 4, 7] rfl ?_
 refine Zq (Zb (Zq (Zr ?_)))
 refine Zu (q_field gfa41_0 rfl) ?_
 refine Zu (q_field gfa35_3 rfl) ?_
 refine Zu (q_field gfa28_1 rfl) ?_
 refine Zu (q_fe gone3 rfl rfl) ?_
 refine Zu (q_eql rfl rfl) ?_
 refine Zy ?_
 refine Zc hS (fun h14 hS => ?_) (fun h14 hS => ?_)
 ·
  refine Zq ?_
  cases hS
 refine Zq (Zr ?_)
 refine Zy ?_
 refine VC.keep (ρ' := [(1, str name_1), (2, ptr b2_1 0), (4, ptr b4_2 0), (22, .bool y11_3.2)]) [1, 2, 4, 22] rfl ?_
 refine Zcb hS (fun h22 hS => ?_) (fun h22 hS => ?_)
 ·
  refine Zq ?_
  cases hS
 refine Zq (Zr ?_)
 refine Zu (q_field gfa41_0 rfl) ?_
 refine Zu (q_field gfa35_2 rfl) ?_
 refine Zu (q_fe gone26 rfl rfl) ?_
 refine Zu (q_ln (s := s_0.now_refs) Tryz.underlying26 rfl) ?_
 refine Zu (q_geq rfl rfl) ?_
 refine Zy ?_
 refine Zc hS (fun h26 hS => ?_) (fun h26 hS => ?_)
 ·
  refine Zq ?_
  cases hS
 refine Zk ?_
 refine Zq (Zr ?_)
 refine Zu (q_fes gagg41 rfl rfl) ?_
 refine Zm ?_
 refine Zu (q_field gfa41_0 rfl) ?_
 refine Zu (q_field gfa35_3 rfl) ?_
 refine Zu (q_field gfa28_1 rfl) ?_
 refine Zu (q_fe gone3 rfl rfl) ?_
 obtain ⟨y40_4, ey40_4, hS⟩ := bd_s hS
 refine VL.callF (repo_set_ct s_0 name_1 s_0.now_head_commit ey40_4) rfl (by decide) ?_
 rintro q40_4_0 rfl
 try dsimp only
 refine Zv (vc := (zStateState q40_4_0)) (cs' := (zStateState q40_4_0)) rfl gsz41 ?_
 refine Zy ?_
 refine VC.keep (ρ' := [(4, ptr b4_2 0), (5, .nilIface)]) [4, 5] rfl ?_
 cases hS
 exact VC.ret (finG (vs := [.agg (zStateState q40_4_0).toArray, .nilIface]) (.inr rfl) rfl (RVs.cell gagg41 rfl rfl Rd.blk (RVs.tmp rfl (RVs.nil))) (q40_4_0, .nil) rfl rfl (by (try dsimp only); exact InM.out) (fun _ _ => trivial))
theorem repo_to_ct (s_0 : StateState) (c_1 : CmdCmd) {r : NamesHead × Err} (hS : Sh.repo_to s_0.pl c_1.pl = some r) :
 Ct Tryz.prog 219 [.agg (zStateState s_0).toArray, .agg #[str c_1.verb, str c_1.name, i64 c_1.n, str c_1.text, .bool c_1.force, c_1.todo.val]] (s_0.now_work.ok.and (s_0.now_index.ok.and (s_0.now_refs.ok.and (s_0.now_seq_doing.ok.and (s_0.now_seq_todo.ok.and (s_0.now_seq_index.ok.and (s_0.now_seq_work.ok.and (s_0.now_stash.ok.and (s_0.commits.ok.and (s_0.log_back.ok.and (s_0.log_forth.ok.and c_1.todo.ok))))))))))) (Ow.emp) (X := NamesHead × Er) (fun x => .tuple #[.agg #[str x.1.branch, i64 x.1.commit], x.2.val]) (fun x => r = (x.1, x.2.pl)) (fun x => x.2.ok) (fun x => Ow.emp) := by
 refine Zo Tryz.func219 Tryz.ntmps219 fun c => ?_
 unfold Sh.repo_to at hS
 refine Zq (Zr ?_)
 refine VL.box (cs := (zStateState s_0)) rfl rfl (by decide) fun b2_1 => ?_
 refine VL.box (cs := [str c_1.verb, str c_1.name, i64 c_1.n, str c_1.text, .bool c_1.force, c_1.todo.val]) rfl rfl (by decide) fun b3_2 => ?_
 refine VL.alloc (cs := [str [], i64 0]) (by kernel_rfl) (by decide) fun b4_3 => ?_
 refine Zy ?_
 refine Zq (Zq (Zr ?_))
 refine Zu (q_field gfa60_1 rfl) ?_
 refine Zu (q_fe gone9 rfl rfl) ?_
 refine Zy ?_
 refine Zc hS (fun h12 hS => ?_) (fun h12 hS => ?_)
 ·
  refine Zq (Zq ?_)
  cases hS
 refine Zk ?_
 refine Zq (Zr ?_)
 refine Zu (q_fes gagg41 rfl rfl) ?_
 refine Zu (q_field gfa60_1 rfl) ?_
 refine Zu (q_fe gone9 rfl rfl) ?_
 obtain ⟨y31_4, ey31_4, hS⟩ := bd_s hS
 refine Zu (q_call (repo_find_ct s_0 c_1.name ey31_4) rfl (fun _ _ => rfl)) ?_
 refine Zm ?_
 refine Zu (q_extract rfl rfl) ?_
 refine Zu (q_extract rfl rfl) ?_
 refine Zy ?_
 refine VC.keep (ρ' := [(2, ptr b2_1 0), (3, ptr b3_2 0), (4, ptr b4_3 0), (8, i64 y31_4.1), (9, .bool y31_4.2)]) [2, 3, 4, 8, 9] rfl ?_
 refine Zq (Zq (Zr ?_))
 refine Zm ?_
 refine Zu (q_not rfl) ?_
 refine Zl ?_
 refine Zcb hS (fun h35 hS => ?_) (fun h35 hS => ?_)
 ·
  refine Zq ?_
  cases hS
 refine Zk ?_
 refine Zq ?_
 refine VC.draw [(0, true), (1, true), (2, true), (3, true), (4, true), (5, true), (6, true), (7, true), (8, true), (9, true), (10, false), (11, true)] mixed (by kernel_rfl) (by kernel_rfl) (by kernel_rfl) ?_
 refine Zw rfl (q_field gfa60_1 rfl) ?_
 refine Zw rfl (q_fe gone9 rfl rfl) ?_
 refine Zw rfl (q_field gfa41_0 rfl) ?_
 refine Zw rfl (q_field gfa35_2 rfl) ?_
 refine Zw rfl (q_fe gone26 rfl rfl) ?_
 refine Zw rfl (q_move rfl) ?_
 obtain ⟨z44_5, nz44_5, hz44_5, hS⟩ := at_s hS
 refine Zw rfl (q_ixm (s := s_0.now_refs) Tryz.underlying26 gsz113 rfl rfl nz44_5 (lt_of_get nz44_5 hz44_5)) ?_
 refine Zw rfl (q_field gfa113_1 rfl) ?_
 refine Zw rfl (q_elf (s := s_0.now_refs) gone3 rfl hz44_5 rfl) ?_
 refine Zw rfl (q_build (vs := [(0, str c_1.name), (1, i64 z44_5.commit)]) (cs := #[str c_1.name, i64 z44_5.commit]) rfl (by kernel_rfl)) ?_
 refine VD.one rfl ?_
 refine Zv (vc := [str c_1.name, i64 z44_5.commit]) (cs' := [str c_1.name, i64 z44_5.commit]) rfl gsz28 ?_
 refine VL.back (D' := []) (by kernel_rfl) (Pend.nil) ?_
 refine Zw rfl (q_assign rfl) ?_
 refine VD.to (fun _ _ h => h) ?_
 refine VC.keep (ρ' := [(4, ptr b4_3 0), (5, .nilIface)]) [4, 5] rfl ?_
 cases hS
 exact VC.ret (finG (vs := [.agg #[str c_1.name, i64 z44_5.commit], .nilIface]) (.inr rfl) rfl (RVs.cell gagg28 rfl rfl Rd.blk (RVs.tmp rfl (RVs.nil))) (⟨c_1.name, z44_5.commit⟩, .nil) rfl rfl (by (try dsimp only); exact InM.out) (fun _ _ => trivial))
theorem plan_of_ct (r_0 : Sv FilesFile) (p_1 : Str) {r : PlanOne} (hS : Sh.plan_of r_0.l p_1 = some r) :
 Ct Tryz.prog 274 [r_0.val, str p_1] r_0.ok (Ow.emp) (X := Unit) (fun _ => .agg #[str r.file_path, i64 r.file_mode, str r.file_data, .bool r.is]) (fun _ => True) (fun _ => Mo.tt) (fun _ => Ow.emp) := by
 refine Zo Tryz.func274 Tryz.ntmps274 fun c => ?_
 unfold Sh.plan_of at hS
 refine Zq (Zr ?_)
 refine VL.alloc (cs := [str [], i64 0, str [], .bool false]) (by kernel_rfl) (by decide) fun b4_1 => ?_
 refine Zl ?_
 refine Zq (Zr ?_)
 refine Zy ?_
 obtain ⟨y10_2, ey10_2, hS⟩ := bd_s hS
 refine Zu (q_call (files_Row_Get_ct r_0 p_1 ey10_2) rfl (fun _ _ => rfl)) ?_
 refine Zm ?_
 refine Zu (q_extract rfl rfl) ?_
 refine Zu (q_extract rfl rfl) ?_
 refine VL.alloc (cs := [str [], i64 0, str []]) (by kernel_rfl) (by decide) fun b5_3 => ?_
 refine Zv (vc := [str y10_2.1.path, i64 y10_2.1.mode, str y10_2.1.data]) (cs' := [str y10_2.1.path, i64 y10_2.1.mode, str y10_2.1.data]) rfl gsz75 ?_
 refine Zy ?_
 refine VC.keep (ρ' := [(4, ptr b4_1 0), (5, ptr b5_3 0), (6, .bool y10_2.2)]) [4, 5, 6] rfl ?_
 refine Zq (Zr ?_)
 refine Zu (q_fes gagg75 rfl rfl) ?_
 refine Zm ?_
 refine Zu (q_build (vs := [(0, .agg #[str y10_2.1.path, i64 y10_2.1.mode, str y10_2.1.data]), (1, .bool y10_2.2)]) (cs := #[str y10_2.1.path, i64 y10_2.1.mode, str y10_2.1.data, .bool y10_2.2]) rfl (by kernel_rfl)) ?_
 refine Zv (vc := [str y10_2.1.path, i64 y10_2.1.mode, str y10_2.1.data, .bool y10_2.2]) (cs' := [str y10_2.1.path, i64 y10_2.1.mode, str y10_2.1.data, .bool y10_2.2]) rfl gsz329 ?_
 refine Zl ?_
 cases hS
 exact VC.ret (finG (vs := [.agg #[str y10_2.1.path, i64 y10_2.1.mode, str y10_2.1.data, .bool y10_2.2]]) (.inr rfl) rfl (RVs.cell gagg329 rfl rfl Rd.blk (RVs.nil)) () rfl trivial (by (try dsimp only); exact InM.out) (fun _ _ => trivial))
theorem plan_known_ct (ix_0 : Sv IndexEntry) (p_1 : Str) {r : Bool} (hS : Sh.plan_known ix_0.l p_1 = some r) :
 Ct Tryz.prog 275 [ix_0.val, str p_1] ix_0.ok (Ow.emp) (X := Unit) (fun _ => .bool r) (fun _ => True) (fun _ => Mo.tt) (fun _ => Ow.emp) := by
 refine Zo Tryz.func275 Tryz.ntmps275 fun c => ?_
 unfold Sh.plan_known at hS
 refine Zq (Zr ?_)
 refine VL.box (cs := [str p_1]) rfl rfl (by decide) fun b3_1 => ?_
 refine Zy ?_
 refine Zq ?_
 cases hS
theorem index_Of_ct (r_0 : Sv FilesFile) {r : List IndexEntry} (hS : Sh.index_Of r_0.l = some r) :
 Ct Tryz.prog 222 [r_0.val] r_0.ok (Ow.emp) (X := Sv IndexEntry) (fun x => x.val) (fun x => r = x.l) (fun x => x.ok) (fun x => Ow.emp) := by
 refine Zo Tryz.func222 Tryz.ntmps222 fun c => ?_
 unfold Sh.index_Of at hS
 refine Zq (Zr ?_)
 refine Zy ?_
 refine Zq (Zr ?_)
 refine Zy ?_
 refine Zq (Zq (Zr ?_))
 refine Zm ?_
 refine Zu (q_ln (s := r_0) Tryz.underlying24 rfl) ?_
 refine Zy ?_
 refine Zb ?_
 refine VC.nilO (⟨none, 0, []⟩ : Sv IndexEntry) 149 ⟨rfl, rfl⟩ ?_
 refine VC.iter (S := Sv IndexEntry × Int) (fun sg => (sg.1.l, sg.2)) (fun sg => [(3, sg.1.val), (6, r_0.val), (7, i64 (r_0.l.length : Int)), (8, i64 sg.2)]) (fun sg => Mo.tt) (fun sg => Ow.star (Sv.own sg.1 149) (Ow.emp)) (⟨none, 0, []⟩, 0) [3, 6, 7, 8] hS rfl ?_
 clear hS
 rintro ⟨out3_1, x8_2⟩ m1 y1 hS hK1
 refine Zq (Zr ?_)
 refine Zu (q_lss rfl rfl) ?_
 refine Zl ?_
 refine Zq ?_
 refine Zc hS (fun h9 hS => ?_) (fun h9 hS => ?_)
 ·
  refine Zk ?_
  refine Zq (Zb (Zq (Zr ?_)))
  obtain ⟨z10_3, nz10_3, hz10_3, hS⟩ := at_s hS
  refine Zu (q_ixm (s := r_0) Tryz.underlying24 gsz75 rfl rfl nz10_3 (lt_of_get nz10_3 hz10_3)) ?_
  refine Zu (q_els (s := r_0) gagg75 rfl rfl hz10_3) ?_
  refine VL.alloc (cs := [str [], i64 0, str []]) (by kernel_rfl) (by decide) fun b5_4 => ?_
  refine Zv (vc := [str z10_3.path, i64 z10_3.mode, str z10_3.data]) (cs' := [str z10_3.path, i64 z10_3.mode, str z10_3.data]) rfl gsz75 ?_
  refine Zl ?_
  refine Zr ?_
  refine Zm ?_
  refine Zu (q_field gfa75_0 rfl) ?_
  refine Zu (q_fe gone9 rfl rfl) ?_
  refine Zu (q_field gfa75_1 rfl) ?_
  refine Zu (q_fe gone3 rfl rfl) ?_
  refine Zu (q_field gfa75_2 rfl) ?_
  refine Zu (q_fe gone9 rfl rfl) ?_
  refine Zu (q_build (vs := [(0, str z10_3.path), (2, i64 z10_3.mode), (3, str z10_3.data)]) (cs := #[str z10_3.path, i64 0, i64 z10_3.mode, str z10_3.data, i64 0, i64 0]) rfl (by kernel_rfl)) ?_
  refine VL.lit (α := IndexEntry) (xs := [.tmp 19]) (vs := [.agg #[str z10_3.path, i64 0, i64 z10_3.mode, str z10_3.data, i64 0, i64 0]]) [⟨z10_3.path, 0, z10_3.mode, z10_3.data, 0, 0⟩] Tryz.underlying25 glit149 (by decide) rfl rfl rfl rfl (by decide) (fun _ _ _ _ => trivial) (by decide) (fun s20_5 hs20_5 => ?_) (by decide)
  replace hS := lt_to hs20_5 hS
  obtain ⟨b21, hS⟩ := gd_s hS
  refine VL.app (s := out3_1) (r := s20_5) Tryz.underlying25 gapp149 (by decide) rfl Fo.out (ap1 b21) (ap2 b21 (by decide)) (by decide) (fun s21_7 hs21_7 => ?_)
  replace hS := lt_to hs21_7 hS
  refine Zy ?_
  refine VC.keep (ρ' := [(3, s21_7.val), (6, r_0.val), (7, i64 (r_0.l.length : Int)), (8, i64 x8_2)]) [3, 6, 7, 8] rfl ?_
  refine Zr ?_
  obtain ⟨b22, hS⟩ := gd_s hS
  refine Zu (q_add rfl rfl b22) ?_
  refine Zm ?_
  refine VL.rnd (s21_7, (x8_2 + 1)) [3, 6, 7, 8] (fun _ _ h => h) (go2 hS hK1) rfl
 replace hS := up2 hS hK1
 refine Zx ?_
 refine Zq (Zr ?_)
 refine Zm ?_
 refine VL.shut out3_1 149 (fun _ _ _ _ => trivial) ?_
 obtain ⟨y24_9, ey24_9, hS⟩ := bd_s hS
 refine VL.callF (slices_Clip_index_Entry_index_Entry_ct out3_1 ey24_9) rfl (by decide) ?_
 rintro q24_9_0 rfl
 try dsimp only
 refine Zy ?_
 cases hS
 exact VC.ret (fin1 (.inr rfl) rfl rfl q24_9_0 rfl rfl (by (try dsimp only); exact InM.out) (fun _ _ => trivial))
theorem plan_Force_ct (head_0 : Sv FilesFile) (to_1 : Sv FilesFile) (ix_2 : Sv IndexEntry) (work_3 : Sv FilesFile) {r : List IndexEntry × List FilesFile} (hS : Sh.plan_Force head_0.l to_1.l ix_2.l work_3.l = some r) :
 Ct Tryz.prog 209 [head_0.val, to_1.val, ix_2.val, work_3.val] (head_0.ok.and (to_1.ok.and (ix_2.ok.and work_3.ok))) (Ow.emp) (X := Sv IndexEntry × Sv FilesFile) (fun x => .tuple #[x.1.val, x.2.val]) (fun x => r = (x.1.l, x.2.l)) (fun x => (x.1.ok.and x.2.ok)) (fun x => Ow.emp) := by
 refine Zo Tryz.func209 Tryz.ntmps209 fun c => ?_
 unfold Sh.plan_Force at hS
 refine Zq (Zr ?_)
 refine Zy ?_
 refine Zq (Zr ?_)
 refine Zy ?_
 refine Zq (Zq (Zr ?_))
 refine Zm ?_
 refine Zu (q_ln (s := work_3) Tryz.underlying24 rfl) ?_
 refine Zy ?_
 refine Zb ?_
 refine VC.iter (S := Int) (fun (x17_1 : Int) => x17_1) (fun (x17_1 : Int) => [(0, head_0.val), (1, to_1.val), (2, ix_2.val), (10, .slice none 0 0), (15, work_3.val), (16, i64 (work_3.l.length : Int)), (17, i64 x17_1)]) (fun (x17_1 : Int) => Mo.tt) (fun (x17_1 : Int) => Ow.emp) 0 [0, 1, 2, 10, 15, 16, 17] hS rfl ?_
 clear hS
 rintro x17_1 m1 y1 hS hK1
 refine Zq (Zr ?_)
 refine Zu (q_lss rfl rfl) ?_
 refine Zl ?_
 refine Zq ?_
 refine Zc hS (fun h18 hS => ?_) (fun h18 hS => ?_)
 ·
  refine Zk ?_
  refine Zq (Zb (Zq (Zr ?_)))
  obtain ⟨z19_2, nz19_2, hz19_2, hS⟩ := at_s hS
  refine Zu (q_ixm (s := work_3) Tryz.underlying24 gsz75 rfl rfl nz19_2 (lt_of_get nz19_2 hz19_2)) ?_
  refine Zu (q_els (s := work_3) gagg75 rfl rfl hz19_2) ?_
  refine VL.alloc (cs := [str [], i64 0, str []]) (by kernel_rfl) (by decide) fun b12_3 => ?_
  refine Zv (vc := [str z19_2.path, i64 z19_2.mode, str z19_2.data]) (cs' := [str z19_2.path, i64 z19_2.mode, str z19_2.data]) rfl gsz75 ?_
  refine Zl ?_
  refine VC.cutJ (S := Bool) (fun (x33_4 : Bool) => x33_4) (fun (x33_4 : Bool) => [(0, head_0.val), (1, to_1.val), (2, ix_2.val), (10, .slice none 0 0), (12, ptr b12_3 0), (15, work_3.val), (16, i64 (work_3.l.length : Int)), (17, i64 x17_1), (33, .bool x33_4)]) (fun (x33_4 : Bool) => Mo.tt) (fun (x33_4 : Bool) => Ow.star (Blk b12_3 [str z19_2.path, i64 z19_2.mode, str z19_2.data] 75) (Ow.emp)) hS ?_ ?_
  ·
   clear hS
   intro k5 hS
   refine Zr ?_
   refine Zm ?_
   refine Zu (q_field gfa75_0 rfl) ?_
   refine Zu (q_fe gone9 rfl rfl) ?_
   obtain ⟨y24_6, ey24_6, hS⟩ := bd_s hS
   refine Zu (q_call (plan_of_ct head_0 z19_2.path ey24_6) rfl (fun _ _ => rfl)) ?_
   refine Zu (q_fld Tryz.underlying329 rfl gone4 rfl rfl) ?_
   refine Zu (q_not rfl) ?_
   refine Zm ?_
   refine Zspb 27 hS (fun h27 hS => ?_) (fun h27 hS => ?_)
   ·
    refine Zg ?_
    refine Zh (q_field gfa75_0 rfl) ?_
    refine Zh (q_fe gone9 rfl rfl) ?_
    obtain ⟨y31_7, ey31_7, hS⟩ := bd_s hS
    refine Zh (q_call (plan_known_ct ix_2 z19_2.path ey31_7) rfl (fun _ _ => rfl)) ?_
    refine Zh (q_not rfl) ?_
    refine Zt ?_
    refine VL.mt (!y31_7) [0, 1, 2, 10, 12, 15, 16, 17, 33] (fun _ _ h => h) hS rfl
   refine VL.skips 5 [32] (by kernel_rfl) ?_
   refine Zf ?_
   refine VL.mt false [0, 1, 2, 10, 12, 15, 16, 17, 33] (fun _ _ h => h) hS rfl
  clear hS
  rintro x33_4 hS
  refine Zcb hS (fun h33 hS => ?_) (fun h33 hS => ?_)
  ·
   cases hS
  refine Zk ?_
  refine Zr ?_
  obtain ⟨b38, hS⟩ := gd_s hS
  refine Zu (q_add rfl rfl b38) ?_
  refine Zm ?_
  refine VL.rnd (x17_1 + 1) [0, 1, 2, 10, 15, 16, 17] (fun _ _ h => h) (go2 hS hK1) rfl
 replace hS := up2 hS hK1
 refine Zx ?_
 refine Zq (Zq (Zr ?_))
 refine Zm ?_
 refine Zu (q_ln (s := to_1) Tryz.underlying24 rfl) ?_
 refine Zy ?_
 refine Zb ?_
 refine VC.iter (S := Sv FilesFile × Int) (fun sg => (sg.1.l, sg.2)) (fun sg => [(1, to_1.val), (10, sg.1.val), (39, to_1.val), (40, i64 (to_1.l.length : Int)), (41, i64 sg.2)]) (fun sg => sg.1.ok) (fun sg => Ow.emp) (⟨none, 0, []⟩, 0) [1, 10, 39, 40, 41] hS rfl ?_
 clear hS
 rintro ⟨out10_8, x41_9⟩ m1 y1 hS hK1
 refine Zq (Zr ?_)
 refine Zu (q_lss rfl rfl) ?_
 refine Zl ?_
 refine Zq ?_
 refine Zc hS (fun h42 hS => ?_) (fun h42 hS => ?_)
 ·
  refine Zk ?_
  refine Zq (Zb (Zq (Zr ?_)))
  obtain ⟨z43_10, nz43_10, hz43_10, hS⟩ := at_s hS
  refine Zu (q_ixm (s := to_1) Tryz.underlying24 gsz75 rfl rfl nz43_10 (lt_of_get nz43_10 hz43_10)) ?_
  refine Zu (q_els (s := to_1) gagg75 rfl rfl hz43_10) ?_
  refine VL.alloc (cs := [str [], i64 0, str []]) (by kernel_rfl) (by decide) fun b14_11 => ?_
  refine Zv (vc := [str z43_10.path, i64 z43_10.mode, str z43_10.data]) (cs' := [str z43_10.path, i64 z43_10.mode, str z43_10.data]) rfl gsz75 ?_
  refine Zl ?_
  refine VC.draw [(0, true), (1, true), (2, true), (4, true), (3, false), (5, false), (6, true)] mixed (by kernel_rfl) (by kernel_rfl) (by kernel_rfl) ?_
  refine Zw rfl (q_move rfl) ?_
  refine Zw rfl (q_field gfa75_0 rfl) ?_
  refine Zw rfl (q_fe gone9 rfl rfl) ?_
  refine Zw rfl (q_fes gagg75 rfl rfl) ?_
  refine VD.one rfl ?_
  obtain ⟨y48_12, ey48_12, hS⟩ := bd_s hS
  refine VL.callF (files_Row_Clear_ct out10_8 z43_10.path ey48_12) rfl (by decide) ?_
  rintro q48_12_0 rfl
  try dsimp only
  refine VL.back (D' := [(4, .agg #[str z43_10.path, i64 z43_10.mode, str z43_10.data])]) (by kernel_rfl) (Pend.cons rfl (q_fes gagg75 rfl rfl) (Pend.nil)) ?_
  refine VD.one rfl ?_
  obtain ⟨y50_13, ey50_13, hS⟩ := bd_s hS
  refine VL.callF (files_Row_Put_ct q48_12_0 z43_10 ey50_13) rfl (by decide) ?_
  rintro q50_13_0 rfl
  try dsimp only
  refine VL.back (D' := []) (by kernel_rfl) (Pend.nil) ?_
  refine Zw rfl (q_assign rfl) ?_
  refine VD.to (fun _ _ h => h) ?_
  refine VC.keep (ρ' := [(1, to_1.val), (10, q50_13_0.val), (39, to_1.val), (40, i64 (to_1.l.length : Int)), (41, i64 x41_9)]) [1, 10, 39, 40, 41] rfl ?_
  refine Zr ?_
  obtain ⟨b51, hS⟩ := gd_s hS
  refine Zu (q_add rfl rfl b51) ?_
  refine Zm ?_
  refine VL.rnd (q50_13_0, (x41_9 + 1)) [1, 10, 39, 40, 41] (fun _ _ h => h) (go2 hS hK1) rfl
 replace hS := up2 hS hK1
 refine Zx ?_
 refine Zq (Zr ?_)
 refine Zm ?_
 obtain ⟨y53_14, ey53_14, hS⟩ := bd_s hS
 refine VL.callF (index_Of_ct to_1 ey53_14) rfl (by decide) ?_
 rintro q53_14_0 rfl
 try dsimp only
 refine Zm ?_
 obtain ⟨y55_15, ey55_15, hS⟩ := bd_s hS
 refine VL.callF (slices_Clip_files_Row_files_File_ct out10_8 ey55_15) rfl (by decide) ?_
 rintro q55_15_0 rfl
 try dsimp only
 refine Zy ?_
 refine VC.keep (ρ' := [(8, q53_14_0.val), (9, q55_15_0.val)]) [8, 9] rfl ?_
 cases hS
 exact VC.ret (fin2 (.inr rfl) rfl rfl rfl (q53_14_0, q55_15_0) rfl rfl (by (try dsimp only); exact InM.out) (fun _ _ => trivial))
end Go.Proofs.YtdfbpkpldjpioaaGreatDoor
end
