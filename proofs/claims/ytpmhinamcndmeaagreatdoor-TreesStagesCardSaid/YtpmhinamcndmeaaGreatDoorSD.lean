/- Part of the proofs of: What clashes keeps all three trees in their stages: for all trees. -/
import Derived.Laws.Small
import Derived.Lib.AppendStr
import Derived.Lib.UnsafeStr
import Derived.Lib.Builder
import Derived.Laws.Externs
import Derived.Laws.BytesString
import Derived.Laws.IdiomStrings
import Derived.Laws.StructEq
import Derived.Laws.Tables
import Derived.Laws.Cover2
import Derived.Lib.ConvBytes
import Derived.Lib.Bytealg
import Derived.Lib.AppendZeros
import Derived.Lib.ItoaNum
import Derived.Lib.LaidTab
import Derived.LaidSub
import Derived.Sort.Grow
import Derived.Deep.Draws
import Derived.Stop.Asserts
import Derived.LaidEql
import Derived.OneCell
import Derived.Below
import Derived.ProofKit
import Derived.OpenShut
import Derived.LaidMore
import Derived.Lay
import Derived.SevenTiedAt
import Derived.Stop.Joined
import Derived.LaidHandle
import Derived.Lib.Join
import Derived.Lib.Overlaps
import Derived.Lib.AppendZerosOnto
import Derived.Sort.Walk0
import Derived.Lib.SlicesCompact
import Derived.Sort.Row
import Derived.Sort.EncStr
import Derived.Maps.Own
import Derived.Maps.Views
import Derived.Sort.KeysCollected
import Derived.StringKeys
import Derived.Shelf.Strings.OnBuilder
import Derived.Shelf.LaysM
import Derived.Shelf.Strconv.Itoa3
import Derived.Shelf.Sort.Plain
import Derived.Shelf.Slices.CompactS
import Derived.Shelf.Slices.In.SortNone
import Derived.Test.YtpmhinamcndmeaaGreatDoorProg
import Derived.Shelf.SlIter.Nil
import Derived.Shelf.SortM.Plain
import Derived.Shelf.SortM.SortNone
import Derived.Test.YtpmhinamcndmeaaGreatDoorSC
set_option linter.unusedVariables false
set_option linter.unusedSimpArgs false
set_option linter.unusedSectionVars false
section
namespace Go.Proofs.YtpmhinamcndmeaaGreatDoor
open Go.RowKit Go.V
open Go.P hiding Str
set_option maxHeartbeats 4000000 in
 set_option maxRecDepth 100000 in
 theorem chunks_ct (a b d : Sv Str) (ha : a.l.length ≤ 256) (hb : b.l.length ≤ 256) (hd : d.l.length ≤ 256) :
 Ct Tryz.prog 298 [a.val, b.val, d.val] (a.ok.and (b.ok.and d.ok)) Ow.emp (X := Sv Ck) (fun q => .tuple #[q.val, .nilIface]) (fun q => q.l.map Ck.pl = chunks a.l b.l d.l) (fun q => q.ok) (fun _ => Ow.emp) := by
 refine Ct.of Tryz.func298 rfl (by kernel_rfl) Tryz.ntmps298 (by simp) fun c => ?_
 refine Zq (Zr ?_)
 refine Za ?_
 refine Za ?_
 refine Zl ?_
 refine Zq (Zr ?_)
 refine Zm ?_
 refine Zm ?_
 refine VL.callF (places_ct a b (by omega) (by omega)) rfl (by decide) ?_
 rintro s18 hs18
 refine Zm ?_
 refine VL.q (q_extract rfl rfl) (by decide) ?_
 refine VL.q (q_extract rfl rfl) (by decide) ?_
 refine Za ?_
 refine Za ?_
 refine Zl ?_
 refine Zq (Zq (Zr ?_))
 refine Zm ?_
 refine VL.q (q_nilne Tryz.underlying27 rfl) (by decide) ?_
 refine Zl ?_
 refine VC.cond_f rfl ?_
 refine Zk ?_
 refine Zq (Zr ?_)
 refine Zm ?_
 refine Zm ?_
 refine VL.callF (places_ct a d (by omega) (by omega)) rfl (by decide) ?_
 rintro s27 hs27
 refine Zm ?_
 refine VL.q (q_extract rfl rfl) (by decide) ?_
 refine VL.q (q_extract rfl rfl) (by decide) ?_
 refine Za ?_
 refine Za ?_
 refine Zl ?_
 refine Zq (Zq (Zr ?_))
 refine Zm ?_
 refine VL.q (q_nilne Tryz.underlying27 rfl) (by decide) ?_
 refine Zl ?_
 refine VC.cond_f rfl ?_
 refine Zk ?_
 refine Zq (Zr ?_)
 refine Zm ?_
 refine Zm ?_
 refine Zm ?_
 refine VL.q (q_build (vs := [(0, a.val), (1, b.val), (2, d.val)]) (cs := #[a.val, b.val, d.val, i64 0, i64 0, i64 0, .slice none 0 0, .bool false]) rfl (by kernel_rfl)) (by decide) ?_
 refine VL.box (cs := [a.val, b.val, d.val, i64 0, i64 0, i64 0, .slice none 0 0, .bool false]) rfl rfl (by decide) fun b37 => ?_
 refine Za ?_
 refine Zl ?_
 refine Zq (Zq (Zr ?_))
 refine Zm ?_
 refine VL.q (q_ln (s := a) Tryz.underlying32 rfl) (by decide) ?_
 refine Zm ?_
 refine Zl ?_
 refine Zb ?_
 refine VC.withM (a.ok.and (b.ok.and (d.ok.and (s18.ok.and s27.ok)))) ?_
 refine VC.nilO (⟨none, 0, []⟩ : Sv Ck) 373 ⟨rfl, rfl⟩ ?_
 refine VC.mono (fun _ h => h) (E' := Ow.star ((⟨none, 0, []⟩ : Sv Ck).own 373) (Ow.star (Blk b37 [a.val, b.val, d.val, i64 0, i64 0, i64 0, (⟨none, 0, []⟩ : Sv Ck).val, .bool false] 407) Ow.emp)) (fun _ h => h) ?_
 have hl18 : s18.l.length = a.l.length := by rw [hs18, places_len]
 have hl27 : s27.l.length = a.l.length := by rw [hs27, places_len]
 refine VC.loopM (S := Int × Wk × Sv Ck × List Ck × Ck) (fun sg => CInv a.l b.l d.l sg.1 sg.2.1 ∧ Rel sg.2.1 sg.2.2.1 sg.2.2.2.1 sg.2.2.2.2) (fun sg => [(0, a.val), (1, b.val), (2, d.val), (6, .slice none 0 0), (7, .nilIface), (8, s18.val), (9, .nilIface), (10, s27.val), (11, ptr b37 0), (39, i64 (a.l.length : Int)), (40, i64 sg.1)]) (fun sg => (MA sg.2.2.2.1).and (a.ok.and (b.ok.and (d.ok.and (s18.ok.and s27.ok))))) (fun sg => Ow.star (Blk b37 [a.val, b.val, d.val, i64 sg.2.1.i, i64 sg.2.1.j, i64 sg.2.1.k, sg.2.2.1.val, .bool sg.2.1.op] 407) (Ow.star (Sv.own sg.2.2.1 373) (Ow.star (OpenO sg.2.1.op sg.2.2.2.2) (Ow.emp)))) (fun sg => (a.l.length - sg.1).toNat) (0, ⟨0, 0, 0, [], false⟩, ⟨none, 0, []⟩, [], nilck) [0, 1, 2, 6, 7, 8, 9, 10, 11, 39, 40] (by (try dsimp only); exact ⟨cinv_start _ _ _, ⟨fun h => (by cases h), fun _ => ⟨rfl, rfl⟩, rfl⟩⟩) rfl (fun _ q => ⟨fun z hz => (by cases hz), q⟩) (by (try dsimp only); exact EntO.out) ?_
 rintro ⟨n, s, o, fr, x⟩ hI
 show VC _ _ _ _ _ [(0, a.val), (1, b.val), (2, d.val), (6, .slice none 0 0), (7, .nilIface), (8, s18.val), (9, .nilIface), (10, s27.val), (11, ptr b37 0), (39, i64 (a.l.length : Int)), (40, i64 n)] ((MA fr).and (a.ok.and (b.ok.and (d.ok.and (s18.ok.and s27.ok))))) (Ow.star (Blk b37 [a.val, b.val, d.val, i64 s.i, i64 s.j, i64 s.k, o.val, .bool s.op] 407) (Ow.star (Sv.own o 373) (Ow.star (OpenO s.op x) (Ow.emp))))
 try dsimp only at hI
 obtain ⟨hC, hR⟩ := hI
 have c1 := hC.n0
 have c2 := hC.n1
 have c3 := hC.i0
 have c4 := hC.i1
 have c5 := hC.j0
 have c6 := hC.j1
 have c7 := hC.k0
 have c8 := hC.k1
 have c9 := hC.len
 have c10 : o.l.length = s.out.length := by rw [← hR.out]; simp
 refine Zq (Zr ?_)
 refine VL.q (q_lss rfl rfl) (by decide) ?_
 refine Zl ?_
 refine Zq ?_
 refine VC.cond_dec rfl (fun h41 => ?_) (fun h41 => ?_)
 ·
  refine Zk ?_
  refine Zq (Zb (Zq (Zr ?_)))
  refine Zm ?_
  refine Za ?_
  refine Zl ?_
  refine Zq (Zr ?_)
  refine Zm ?_
  refine Zm ?_
  obtain ⟨z45, hz45⟩ : ∃ z, s18.l[(n).toNat]? = some z := ⟨_, List.getElem?_eq_getElem (by omega)⟩
  refine VL.q (q_ixm (s := s18) Tryz.underlying60 sz3 rfl rfl (by omega) (by omega)) (by decide) ?_
  refine VL.q (q_el (s := s18) one3 rfl hz45 rfl) (by decide) ?_
  refine VL.q (q_geq rfl rfl) (by decide) ?_
  refine Zm ?_
  refine VL.split_dec 48 rfl (fun h48 => ?_) (fun h48 => ?_)
  ·
   refine Zg ?_
   refine Zg ?_
   obtain ⟨z51, hz51⟩ : ∃ z, s27.l[(n).toNat]? = some z := ⟨_, List.getElem?_eq_getElem (by omega)⟩
   refine VL.gy rfl rfl (q_ixm (s := s27) Tryz.underlying60 sz3 rfl rfl (by omega) (by omega)) (by decide) ?_
   refine VL.gy rfl rfl (q_el (s := s27) one3 rfl hz51 rfl) (by decide) ?_
   refine VL.gy rfl rfl (q_geq rfl rfl) (by decide) ?_
   refine Zt ?_
   refine Zl ?_
   refine VC.cond_dec rfl (fun h54 => ?_) (fun h54 => ?_)
   ·
    refine Zq ?_
    obtain ⟨line, hline⟩ : ∃ z, a.l[n.toNat]? = some z := ⟨_, List.getElem?_eq_getElem (by omega)⟩
    have hzu : (places a.l b.l)[n.toNat]? = some z45 := by rw [← hs18]; exact hz45
    have hzv : (places a.l d.l)[n.toNat]? = some z51 := by rw [← hs27]; exact hz51
    have hju := hC.ju n.toNat z45 (by omega) hzu (by assumption)
    have hkv := hC.kv n.toNat z51 (by omega) hzv (by assumption)
    have hur := places_range a.l b.l z45 (List.mem_of_getElem? hzu) (by assumption)
    have hvr := places_range a.l d.l z51 (List.mem_of_getElem? hzv) (by assumption)
    refine VC.draw [(0, true), (1, true), (2, true), (3, true), (4, true), (5, true), (6, true), (7, true), (8, true), (9, true), (10, false)] mixed (by kernel_rfl) (by kernel_rfl) (by kernel_rfl) ?_
    refine VD.q rfl (q_move rfl) (by decide) ?_
    refine VD.q rfl (q_move rfl) (by decide) ?_
    refine VD.q rfl (q_move rfl) (by decide) ?_
    refine VD.q rfl (q_move rfl) (by decide) ?_
    refine VD.q rfl (q_ixm (s := s18) Tryz.underlying60 sz3 rfl rfl (by omega) (by omega)) (by decide) ?_
    refine VD.q rfl (q_el (s := s18) one3 rfl hz45 rfl) (by decide) ?_
    refine VD.q rfl (q_move rfl) (by decide) ?_
    refine VD.q rfl (q_move rfl) (by decide) ?_
    refine VD.q rfl (q_ixm (s := s27) Tryz.underlying60 sz3 rfl rfl (by omega) (by omega)) (by decide) ?_
    refine VD.q rfl (q_el (s := s27) one3 rfl hz51 rfl) (by decide) ?_
    refine VD.one rfl ?_
    obtain ⟨out1, op1, hput⟩ := put_form a.l b.l d.l s n z45 z51
    refine VL.callO (upto_all b37 a b d o fr x s n z45 z51 hR (by omega) (by omega) (by omega) (by omega) (by omega) (by omega) (by omega) (by omega) (by omega) ha hb hd (by omega)) rfl (by decide) ?_
    rintro ⟨o1, fr1, x1⟩ hR1
    dsimp only at hR1
    rw [hput] at hR1
    simp only [hput]
    refine VL.back (D' := []) (by kernel_rfl) (Pend.nil) ?_
    refine VD.to (fun _ _ h => h) ?_
    have hps := put_sm (b := a.l) (o := b.l) (t := d.l) (s := s) (i := n) (j := z45) (k := z51) ha hb hd (N := 256 + n) (by omega) (Sm.up (N := 256 + s.i) hC.sm (by omega))
    rw [hput] at hps
    have hlen1 : o1.l.length ≤ 1048576 := by have := congrArg List.length hR1.out; simp at this; have := hps.2; dsimp only at this; omega
    have hsm1 : ∀ q ∈ out1, q.base.length ≤ 1048576 ∧ q.ours.length ≤ 1048576 ∧ q.theirs.length ≤ 1048576 ∧ q.out.length ≤ 1048576 := fun q hq => by have := hps.1 q hq; omega
    refine Zr ?_
    refine Zm ?_
    have hk := kept_all b37 a b d o1 fr1 x1 ⟨n, z45, z51, out1, op1⟩ line hR1 hline (by dsimp only; omega) (by dsimp only; omega) (by dsimp only; omega) (by dsimp only; omega) (by dsimp only; omega) (by dsimp only; omega) hlen1 hsm1
    dsimp only at hk
    refine VL.callO (hk) rfl (by decide) ?_
    rintro ⟨o2, fr2, x2⟩ ⟨hR2, hfr2⟩
    dsimp only at hR2 hfr2
    dsimp only
    refine Zl ?_
    refine Zr ?_
    refine VL.q (q_add rfl rfl ⟨by omega, by omega⟩) (by decide) ?_
    refine Zm ?_
    refine VL.any ((n + 1), ⟨n + 1, z45 + 1, z51 + 1, (keepW ⟨n, z45, z51, out1, op1⟩ line).out, true⟩, o2, fr2, x2) [0, 1, 2, 6, 7, 8, 9, 10, 11, 39, 40] (fun _ _ h => h) ?_ rfl (fun _ q => ⟨by have := q.2.1; rw [hfr2]; exact this, q.2.2.2⟩) (by (try dsimp only); exact EntO.out)
    try dsimp only
    first
      | exact ⟨⟨by have := cinv_keep hC ha hb hd hzu hzv hline (by assumption) (by assumption); rw [hput] at this; exact this, hR2⟩, by omega⟩
      | exact ⟨⟨cinv_pass hC (v := z51) (by rw [← hs18]; exact hz45) (by rw [← hs27]; exact hz51) (by omega) (by omega), hR⟩, by omega⟩
      | exact ⟨⟨cinv_pass hC (u := z45) (v := s27.l[n.toNat]'(by omega)) (by rw [← hs18]; exact hz45) (by rw [← hs27]; exact List.getElem?_eq_getElem (by omega)) (by omega) (by omega), hR⟩, by omega⟩
   refine Zk ?_
   refine Zr ?_
   refine VL.q (q_add rfl rfl ⟨by omega, by omega⟩) (by decide) ?_
   refine Zm ?_
   refine VL.any ((n + 1), s, o, fr, x) [0, 1, 2, 6, 7, 8, 9, 10, 11, 39, 40] (fun _ _ h => h) ?_ rfl (fun _ q => q) (by (try dsimp only); exact EntO.out)
   try dsimp only
   first
     | exact ⟨⟨by have := cinv_keep hC ha hb hd hzu hzv hline (by assumption) (by assumption); rw [hput] at this; exact this, hR2⟩, by omega⟩
     | exact ⟨⟨cinv_pass hC (v := z51) (by rw [← hs18]; exact hz45) (by rw [← hs27]; exact hz51) (by omega) (by omega), hR⟩, by omega⟩
     | exact ⟨⟨cinv_pass hC (u := z45) (v := s27.l[n.toNat]'(by omega)) (by rw [← hs18]; exact hz45) (by rw [← hs27]; exact List.getElem?_eq_getElem (by omega)) (by omega) (by omega), hR⟩, by omega⟩
  refine Zn ?_
  refine Zn ?_
  refine Zn ?_
  refine Zn ?_
  refine Zn ?_
  refine Zf ?_
  refine Zl ?_
  refine VC.cond_f rfl ?_
  refine Zk ?_
  refine Zr ?_
  refine VL.q (q_add rfl rfl ⟨by omega, by omega⟩) (by decide) ?_
  refine Zm ?_
  refine VL.any ((n + 1), s, o, fr, x) [0, 1, 2, 6, 7, 8, 9, 10, 11, 39, 40] (fun _ _ h => h) ?_ rfl (fun _ q => q) (by (try dsimp only); exact EntO.out)
  try dsimp only
  first
    | exact ⟨⟨by have := cinv_keep hC ha hb hd hzu hzv hline (by assumption) (by assumption); rw [hput] at this; exact this, hR2⟩, by omega⟩
    | exact ⟨⟨cinv_pass hC (v := z51) (by rw [← hs18]; exact hz45) (by rw [← hs27]; exact hz51) (by omega) (by omega), hR⟩, by omega⟩
    | exact ⟨⟨cinv_pass hC (u := z45) (v := s27.l[n.toNat]'(by omega)) (by rw [← hs18]; exact hz45) (by rw [← hs27]; exact List.getElem?_eq_getElem (by omega)) (by omega) (by omega), hR⟩, by omega⟩
 refine Zx ?_
 refine Zq (Zr ?_)
 refine Zm ?_
 refine Zm ?_
 refine VL.q (q_ln (s := a) Tryz.underlying32 rfl) (by decide) ?_
 refine Zm ?_
 refine VL.q (q_ln (s := b) Tryz.underlying32 rfl) (by decide) ?_
 refine Zm ?_
 refine VL.q (q_ln (s := d) Tryz.underlying32 rfl) (by decide) ?_
 obtain ⟨out1, op1, hput⟩ := put_form a.l b.l d.l s (a.l.length : Int) (b.l.length : Int) (d.l.length : Int)
 refine VL.callO (upto_all b37 a b d o fr x s (a.l.length : Int) (b.l.length : Int) (d.l.length : Int) hR (by omega) (by omega) (by omega) (by omega) (by omega) (by omega) (by omega) (by omega) (by omega) ha hb hd (by omega)) rfl (by decide) ?_
 rintro ⟨o1, fr1, x1⟩ hR1
 dsimp only at hR1
 rw [hput] at hR1
 simp only [hput]
 refine Zl ?_
 refine Zq (Zq ?_)
 have hch : o1.l.map Ck.pl = chunks a.l b.l d.l := by
   rw [hR1.out]
   have he : n.toNat = a.l.length := by omega
   have h2 := hC.eq
   rw [he] at h2
   unfold chunks
   rw [← h2, hput]
 have hl1 : o1.l.length ≤ 1048576 := by
   have h2 := congrArg List.length hR1.out
   simp at h2
   have hps := (put_sm (b := a.l) (o := b.l) (t := d.l) (s := s) (i := (a.l.length : Int)) (j := (b.l.length : Int)) (k := (d.l.length : Int)) ha hb hd (N := 256 + n) (by omega) (Sm.up (N := 256 + s.i) hC.sm (by omega))).2
   rw [hput] at hps
   dsimp only at hps
   omega
 refine Zr ?_
 refine Zm ?_
 refine VL.q (q_nilCheck rfl) (by decide) ?_
 refine VL.q (q_field fa407_6 rfl) (by decide) ?_
 refine VL.q (q_fe one369 rfl rfl) (by decide) ?_
 refine VL.q (q_ln (s := o1) Tryz.underlying369 rfl) (by decide) ?_
 refine Zm ?_
 refine Zl ?_
 refine Zb ?_
 refine VC.closeO op1 rfl hR1 ?_
 refine VC.withM ((MA o1.l).and (a.ok.and (b.ok.and (d.ok.and (s18.ok.and s27.ok))))) ?_
 refine VC.loopM (S := Int × Sv Ck) (fun sg => 0 ≤ sg.1 ∧ sg.1 ≤ sg.2.l.length ∧ sg.2.l.length = o1.l.length ∧ sg.2.l.map Ck.pl = chunks a.l b.l d.l) (fun sg => [(0, a.val), (1, b.val), (2, d.val), (6, .slice none 0 0), (7, .nilIface), (8, s18.val), (9, .nilIface), (10, s27.val), (11, ptr b37 0), (39, i64 (a.l.length : Int)), (40, i64 n), (81, i64 (o1.l.length : Int)), (82, i64 sg.1)]) (fun sg => (MA sg.2.l).and (a.ok.and (b.ok.and (d.ok.and (s18.ok.and s27.ok))))) (fun sg => Ow.star (Blk b37 [a.val, b.val, d.val, i64 (a.l.length : Int), i64 (b.l.length : Int), i64 (d.l.length : Int), sg.2.val, .bool op1] 407) (Ow.star (Sv.own sg.2 373) (Ow.emp))) (fun sg => (sg.2.l.length - sg.1).toNat) (0, o1) [0, 1, 2, 6, 7, 8, 9, 10, 11, 39, 40, 81, 82] (by (try dsimp only); exact ⟨by omega, by omega, rfl, hch⟩) rfl (fun _ q => q) (by (try dsimp only); exact EntO.out) ?_
 rintro ⟨m, o3⟩ hI
 show VC _ _ _ _ _ [(0, a.val), (1, b.val), (2, d.val), (6, .slice none 0 0), (7, .nilIface), (8, s18.val), (9, .nilIface), (10, s27.val), (11, ptr b37 0), (39, i64 (a.l.length : Int)), (40, i64 n), (81, i64 (o1.l.length : Int)), (82, i64 m)] ((MA o3.l).and (a.ok.and (b.ok.and (d.ok.and (s18.ok.and s27.ok))))) (Ow.star (Blk b37 [a.val, b.val, d.val, i64 (a.l.length : Int), i64 (b.l.length : Int), i64 (d.l.length : Int), o3.val, .bool op1] 407) (Ow.star (Sv.own o3 373) (Ow.emp)))
 try dsimp only at hI
 obtain ⟨m0, m1, hol3, hmap⟩ := hI
 refine Zq (Zr ?_)
 refine VL.q (q_lss rfl rfl) (by decide) ?_
 refine Zl ?_
 refine Zq ?_
 refine VC.cond_dec rfl (fun h83 => ?_) (fun h83 => ?_)
 ·
  refine Zk ?_
  refine Zq (Zb (Zq (Zr ?_)))
  refine Zm ?_
  refine Za ?_
  refine Zl ?_
  refine Zq (Zr ?_)
  refine Zm ?_
  refine VL.q (q_nilCheck rfl) (by decide) ?_
  refine VL.q (q_field fa407_6 rfl) (by decide) ?_
  refine VL.q (q_fe one369 rfl rfl) (by decide) ?_
  refine Zm ?_
  obtain ⟨z90, hz90⟩ : ∃ z, o3.l[(m).toNat]? = some z := ⟨_, List.getElem?_eq_getElem (by omega)⟩
  refine VL.q (q_ixo (s := o3) Tryz.underlying369 sz373 rfl rfl (by omega) (by omega)) (by decide) ?_
  refine Za ?_
  refine Zl ?_
  refine VC.addM z90.m (fun h q => q.1 z90 (List.mem_of_getElem? hz90)) ?_
  refine VC.draw [(0, true), (1, true), (2, true), (3, true), (4, true), (5, true), (6, true), (7, true), (9, true), (10, true), (11, true), (12, true), (14, true), (15, true), (16, true), (17, true), (19, true), (20, true), (21, true), (22, true), (8, false), (13, false), (18, false), (23, false), (24, true), (25, true), (26, false), (27, true), (28, true), (29, false), (30, true), (31, true), (32, false), (33, true), (34, true), (35, false)] mixed (by kernel_rfl) (by kernel_rfl) (by kernel_rfl) ?_
  refine VD.q rfl (q_move rfl) (by decide) ?_
  refine VD.q rfl (q_move rfl) (by decide) ?_
  refine VD.q rfl (q_move rfl) (by decide) ?_
  refine VD.q rfl (q_move rfl) (by decide) ?_
  refine VD.q rfl (q_move rfl) (by decide) ?_
  refine VD.q rfl (q_nilCheck rfl) (by decide) ?_
  refine VD.q rfl (q_field fa373_0 rfl) (by decide) ?_
  refine VD.q rfl (q_elfo (s := o3) one32 rfl hz90 rfl) (by decide) ?_
  refine VD.q rfl (q_move rfl) (by decide) ?_
  refine VD.q rfl (q_nilCheck rfl) (by decide) ?_
  refine VD.q rfl (q_field fa373_1 rfl) (by decide) ?_
  refine VD.q rfl (q_elfo (s := o3) one32 rfl hz90 rfl) (by decide) ?_
  refine VD.q rfl (q_move rfl) (by decide) ?_
  refine VD.q rfl (q_nilCheck rfl) (by decide) ?_
  refine VD.q rfl (q_field fa373_2 rfl) (by decide) ?_
  refine VD.q rfl (q_elfo (s := o3) one32 rfl hz90 rfl) (by decide) ?_
  refine VD.q rfl (q_move rfl) (by decide) ?_
  refine VD.q rfl (q_nilCheck rfl) (by decide) ?_
  refine VD.q rfl (q_field fa373_4 rfl) (by decide) ?_
  refine VD.q rfl (q_elfo (s := o3) one32 rfl hz90 rfl) (by decide) ?_
  refine VD.one rfl ?_
  refine VL.callF (clip_ct z90.base) rfl (by decide) ?_
  rintro s99 hs99
  refine VL.back (D' := [(22, z90.out.val), (21, ptr o3.b (o3.o + ((m).toNat) * Dat.sz Ck + 4)), (20, ptr o3.b (o3.o + ((m).toNat) * Dat.sz Ck + 0)), (17, z90.theirs.val), (16, ptr o3.b (o3.o + ((m).toNat) * Dat.sz Ck + 2)), (15, ptr o3.b (o3.o + ((m).toNat) * Dat.sz Ck + 0)), (12, z90.ours.val), (11, ptr o3.b (o3.o + ((m).toNat) * Dat.sz Ck + 1)), (10, ptr o3.b (o3.o + ((m).toNat) * Dat.sz Ck + 0))]) (by kernel_rfl) (Pend.cons rfl (q_elfo (s := o3) one32 rfl hz90 rfl) (Pend.cons rfl (q_field fa373_4 rfl) (Pend.cons rfl (q_nilCheck rfl) (Pend.cons rfl (q_elfo (s := o3) one32 rfl hz90 rfl) (Pend.cons rfl (q_field fa373_2 rfl) (Pend.cons rfl (q_nilCheck rfl) (Pend.cons rfl (q_elfo (s := o3) one32 rfl hz90 rfl) (Pend.cons rfl (q_field fa373_1 rfl) (Pend.cons rfl (q_nilCheck rfl) (Pend.nil)))))))))) ?_
  refine VD.one rfl ?_
  refine VL.callF (clip_ct z90.ours) rfl (by decide) ?_
  rintro s104 hs104
  refine VL.back (D' := [(22, z90.out.val), (21, ptr o3.b (o3.o + ((m).toNat) * Dat.sz Ck + 4)), (20, ptr o3.b (o3.o + ((m).toNat) * Dat.sz Ck + 0)), (17, z90.theirs.val), (16, ptr o3.b (o3.o + ((m).toNat) * Dat.sz Ck + 2)), (15, ptr o3.b (o3.o + ((m).toNat) * Dat.sz Ck + 0))]) (by kernel_rfl) (Pend.cons rfl (q_elfo (s := o3) one32 rfl hz90 rfl) (Pend.cons rfl (q_field fa373_4 rfl) (Pend.cons rfl (q_nilCheck rfl) (Pend.cons rfl (q_elfo (s := o3) one32 rfl hz90 rfl) (Pend.cons rfl (q_field fa373_2 rfl) (Pend.cons rfl (q_nilCheck rfl) (Pend.nil))))))) ?_
  refine VD.one rfl ?_
  refine VL.callF (clip_ct z90.theirs) rfl (by decide) ?_
  rintro s109 hs109
  refine VL.back (D' := [(22, z90.out.val), (21, ptr o3.b (o3.o + ((m).toNat) * Dat.sz Ck + 4)), (20, ptr o3.b (o3.o + ((m).toNat) * Dat.sz Ck + 0))]) (by kernel_rfl) (Pend.cons rfl (q_elfo (s := o3) one32 rfl hz90 rfl) (Pend.cons rfl (q_field fa373_4 rfl) (Pend.cons rfl (q_nilCheck rfl) (Pend.nil)))) ?_
  refine VD.one rfl ?_
  refine VL.callF (clip_ct z90.out) rfl (by decide) ?_
  rintro s114 hs114
  refine VL.back (D' := []) (by kernel_rfl) (Pend.nil) ?_
  refine VD.q rfl (q_nilCheck rfl) (by decide) ?_
  refine VD.q rfl (q_field fa373_0 rfl) (by decide) ?_
  refine VD.one rfl ?_
  refine VL.storeE (s := o3) (T := 373) (j := 0) (vc := [s99.val]) (⟨s99, z90.ours, z90.theirs, z90.clash, z90.out⟩ : Ck) (by decide) rfl rfl hz90 rfl sz32 rfl rfl (Nat.le_of_ble_eq_true rfl) rfl (fun w0 hw0 haw0 hcw0 hvw0 hbw0 how0 => ?_)
  rw [← hvw0]
  try rw [← hbw0]
  try rw [← how0]
  have hew0 : w0.l[(m).toNat]? = some (⟨s99, z90.ours, z90.theirs, z90.clash, z90.out⟩ : Ck) := by rw [hw0]; exact List.getElem?_set_self (List.getElem?_eq_some_iff.1 hz90).1
  refine VL.back (D' := []) (by kernel_rfl) (Pend.nil) ?_
  refine VD.q rfl (q_nilCheck rfl) (by decide) ?_
  refine VD.q rfl (q_field fa373_1 rfl) (by decide) ?_
  refine VD.one rfl ?_
  refine VL.storeE (s := w0) (T := 373) (j := 1) (vc := [s104.val]) (⟨s99, s104, z90.theirs, z90.clash, z90.out⟩ : Ck) (by decide) rfl rfl hew0 rfl sz32 rfl rfl (Nat.le_of_ble_eq_true rfl) rfl (fun w1 hw1 haw1 hcw1 hvw1 hbw1 how1 => ?_)
  rw [← hvw1]
  try rw [← hbw1]
  try rw [← how1]
  have hew1 : w1.l[(m).toNat]? = some (⟨s99, s104, z90.theirs, z90.clash, z90.out⟩ : Ck) := by rw [hw1]; exact List.getElem?_set_self (List.getElem?_eq_some_iff.1 hew0).1
  refine VL.back (D' := []) (by kernel_rfl) (Pend.nil) ?_
  refine VD.q rfl (q_nilCheck rfl) (by decide) ?_
  refine VD.q rfl (q_field fa373_2 rfl) (by decide) ?_
  refine VD.one rfl ?_
  refine VL.storeE (s := w1) (T := 373) (j := 2) (vc := [s109.val]) (⟨s99, s104, s109, z90.clash, z90.out⟩ : Ck) (by decide) rfl rfl hew1 rfl sz32 rfl rfl (Nat.le_of_ble_eq_true rfl) rfl (fun w2 hw2 haw2 hcw2 hvw2 hbw2 how2 => ?_)
  rw [← hvw2]
  try rw [← hbw2]
  try rw [← how2]
  have hew2 : w2.l[(m).toNat]? = some (⟨s99, s104, s109, z90.clash, z90.out⟩ : Ck) := by rw [hw2]; exact List.getElem?_set_self (List.getElem?_eq_some_iff.1 hew1).1
  refine VL.back (D' := []) (by kernel_rfl) (Pend.nil) ?_
  refine VD.q rfl (q_nilCheck rfl) (by decide) ?_
  refine VD.q rfl (q_field fa373_4 rfl) (by decide) ?_
  refine VD.one rfl ?_
  refine VL.storeE (s := w2) (T := 373) (j := 4) (vc := [s114.val]) (⟨s99, s104, s109, z90.clash, s114⟩ : Ck) (by decide) rfl rfl hew2 rfl sz32 rfl rfl (Nat.le_of_ble_eq_true rfl) rfl (fun w3 hw3 haw3 hcw3 hvw3 hbw3 how3 => ?_)
  rw [← hvw3]
  try rw [← hbw3]
  try rw [← how3]
  have hew3 : w3.l[(m).toNat]? = some (⟨s99, s104, s109, z90.clash, s114⟩ : Ck) := by rw [hw3]; exact List.getElem?_set_self (List.getElem?_eq_some_iff.1 hew2).1
  refine VL.back (D' := []) (by kernel_rfl) (Pend.nil) ?_
  refine VD.to (fun _ _ h => h) ?_
  have hw : w3.l = o3.l.set m.toNat ⟨s99, s104, s109, z90.clash, s114⟩ := by rw [hw3, hw2, hw1, hw0, List.set_set, List.set_set, List.set_set]
  refine Zr ?_
  refine VL.q (q_add rfl rfl ⟨by omega, by omega⟩) (by decide) ?_
  refine Zm ?_
  refine VL.any ((m + 1), w3) [0, 1, 2, 6, 7, 8, 9, 10, 11, 39, 40, 81, 82] (fun _ _ h => h) ?_ rfl (fun hp ⟨q4, q3, q2, q1, _, qm, qr⟩ => ⟨by rw [hw]; exact MA.set (l := o3.l) qm ⟨q1, q2, q3, q4⟩, qr⟩) (by (try dsimp only); exact EntO.out)
  try dsimp only
  exact ⟨⟨by omega, by rw [hw]; simp; omega, by rw [hw]; simp; omega, by rw [hw, map_set_pl hz90 (by simp [Ck.pl, hs99, hs104, hs109, hs114])]; exact hmap⟩, by rw [hw]; simp; omega⟩
 refine Zx ?_
 refine Zq ?_
 refine VC.shut o3 373 (fun _ q z hz => q.1 z hz) ?_
 refine Zr ?_
 refine Zm ?_
 refine VL.q (q_nilCheck rfl) (by decide) ?_
 refine VL.q (q_field fa407_6 rfl) (by decide) ?_
 refine VL.q (q_fe one369 rfl rfl) (by decide) ?_
 refine VL.callF (clipC_ct o3) rfl (by decide) ?_
 rintro s128 hs128
 refine Za ?_
 refine Za ?_
 refine Zl ?_
 exact VC.ret (fin2I (.inr rfl) rfl rfl rfl s128 rfl ((by rw [hs128]; exact hmap)) (fun _ _ => trivial))
end Go.Proofs.YtpmhinamcndmeaaGreatDoor
end

section
namespace Go.S
variable {α β γ R S T : Type}
inductive Err where
  | nil
  | no (n : Int)
  | fault (part : List UInt8) (at_ : Int) (e : Err)
  deriving DecidableEq
def Err.isNil : Err → Bool
  | .nil => true
  | _ => false
def gd (c : Prop) [Decidable c] (k : Option α) : Option α := if c then k else none
def at_ (l : List α) (i : Int) : Option α := if 0 ≤ i then l[i.toNat]? else none
def lt (e : α) (f : α → Option β) : Option β := f e
def up (o : Option R) : Option (T ⊕ R) := match o with
  | none => none
  | some r => some (.inr r)
def go (t : T) : Option (T ⊕ R) := some (.inl t)
def jn (K : S → Option R) (F : (S → Option R) → Option R) : Option R := F K
def I64 (n : Int) : Prop := -9223372036854775808 ≤ n ∧ n ≤ 9223372036854775807
instance (n : Int) : Decidable (I64 n) := inferInstanceAs (Decidable (_ ∧ _))
def iterN (B : T → Option (T ⊕ R)) : Nat → T → Option R
  | 0, _ => none
  | n + 1, t => match B t with
    | none => none
    | some (.inl t') => iterN B n t'
    | some (.inr r) => some r
open Classical in
/-- a loop: reckoned where a thousand million rounds do; else by choice -/
noncomputable def iter (B : T → Option (T ⊕ R)) (t : T) : Option R := match iterN B 1000000000 t with
  | some r => some r
  | none => if h : ∃ n r, iterN B n t = some r then some h.choose_spec.choose else none
def Step (B : T → Option (T ⊕ R)) (n : Nat) (e : R) : T ⊕ R → Prop
  | .inl t => iterN B n t = some e
  | .inr r => r = e
theorem iterN_mono {B : T → Option (T ⊕ R)} {r : R} : ∀ {n : Nat} {t : T}, iterN B n t = some r → ∀ m, n ≤ m → iterN B m t = some r
  | 0, _, h, _, _ => by cases h
  | n + 1, t, h, m, hm => by
    obtain ⟨m, rfl⟩ : ∃ k, m = k + 1 := ⟨m - 1, by omega⟩
    simp only [iterN] at h ⊢
    cases hb : B t with
    | none => rw [hb] at h; cases h
    | some y =>
      rw [hb] at h
      cases y with
      | inl t' => exact iterN_mono h m (by omega)
      | inr r' => exact h
theorem iterN_det {B : T → Option (T ⊕ R)} {r r' : R} {n m : Nat} {t : T} (h : iterN B n t = some r) (h' : iterN B m t = some r') : r = r' := by
  have a := iterN_mono h (max n m) (Nat.le_max_left _ _)
  have b := iterN_mono h' (max n m) (Nat.le_max_right _ _)
  rw [a] at b
  exact Option.some.inj b
theorem iter_of {B : T → Option (T ⊕ R)} {r : R} {n : Nat} {t : T} (h : iterN B n t = some r) : iter B t = some r := by
  have hx : ∃ n r, iterN B n t = some r := ⟨n, r, h⟩
  unfold iter
  split
  · rename_i r' h'
    exact congrArg some (iterN_det h' h)
  · rw [dif_pos hx]
    exact congrArg some (iterN_det hx.choose_spec.choose_spec h)
theorem iter_ex {B : T → Option (T ⊕ R)} {e : R} {t : T} (h : iter B t = some e) : ∃ n, iterN B n t = some e := by
  unfold iter at h
  split at h
  · rename_i r' h'
    exact ⟨_, by rw [h', Option.some.inj h]⟩
  · split at h
    · rename_i hx
      exact ⟨hx.choose, (Option.some.inj h) ▸ hx.choose_spec.choose_spec⟩
    · cases h
theorem iterN_s {B : T → Option (T ⊕ R)} {e : R} {n : Nat} {t : T} (h : iterN B n t = some e) : ∃ m y, n = m + 1 ∧ B t = some y ∧ Step B m e y := by
  cases n with
  | zero => cases h
  | succ n =>
    simp only [iterN] at h
    cases hb : B t with
    | none => rw [hb] at h; cases h
    | some y =>
      rw [hb] at h
      cases y with
      | inl t' => exact ⟨n, _, rfl, rfl, h⟩
      | inr r' => exact ⟨n, _, rfl, rfl, Option.some.inj h⟩
theorem iter_inv {B : T → Option (T ⊕ R)} (I : T → Prop) (μ : T → Nat) (Q : R → Prop)
    (h : ∀ t, I t → ∃ y, B t = some y ∧ match y with | .inl t' => I t' ∧ μ t' < μ t | .inr r => Q r) (t0 : T) (h0 : I t0) : ∃ r, iter B t0 = some r ∧ Q r := by
  suffices H : ∀ n t, μ t < n → I t → ∃ r, iterN B n t = some r ∧ Q r by
    obtain ⟨r, h1, h2⟩ := H (μ t0 + 1) t0 (by omega) h0
    exact ⟨r, iter_of h1, h2⟩
  intro n
  induction n with
  | zero => intro t h; omega
  | succ n ih =>
    intro t hn hI
    obtain ⟨y, hy, hm⟩ := h t hI
    simp only [iterN, hy]
    cases y with
    | inl t' => exact ih t' (by have := hm.2; omega) hm.1
    | inr r => exact ⟨r, rfl, hm⟩
theorem gd_s {c : Prop} [Decidable c] {k : Option α} {r : α} (h : gd c k = some r) : c ∧ k = some r := by
  unfold gd at h
  split at h
  · exact ⟨‹_›, h⟩
  · cases h
theorem bd_s {o : Option α} {f : α → Option β} {r : β} (h : o.bind f = some r) : ∃ a, o = some a ∧ f a = some r := by
  cases o with
  | none => cases h
  | some a => exact ⟨a, rfl, h⟩
theorem at_s {l : List α} {i : Int} {f : α → Option β} {r : β} (h : (at_ l i).bind f = some r) : ∃ z, 0 ≤ i ∧ l[i.toNat]? = some z ∧ f z = some r := by
  obtain ⟨z, h1, h2⟩ := bd_s h
  unfold at_ at h1
  split at h1
  · exact ⟨z, ‹_›, h1, h2⟩
  · cases h1
theorem atm_s {g : γ → α} {l : List γ} {i : Int} {f : α → Option β} {r : β} (h : (at_ (l.map g) i).bind f = some r) : ∃ z, 0 ≤ i ∧ l[i.toNat]? = some z ∧ f (g z) = some r := by
  obtain ⟨y, h0, h1, h2⟩ := at_s h
  rw [List.getElem?_map] at h1
  cases hz : l[i.toNat]? with
  | none => rw [hz] at h1; cases h1
  | some z => rw [hz] at h1; cases h1; exact ⟨z, h0, rfl, h2⟩
theorem lt_s {e : α} {f : α → Option β} {r : β} (h : lt e f = some r) : ∃ y, e = y ∧ f y = some r := ⟨e, rfl, h⟩
theorem lt_to {e p : α} {f : α → Option β} {r : β} (q : p = e) (h : lt e f = some r) : f p = some r := by subst q; exact h
theorem up_s {o : Option R} {y : T ⊕ R} (h : up o = some y) : ∃ c, o = some c ∧ y = .inr c := by
  cases o with
  | none => cases h
  | some c => cases h; exact ⟨c, rfl, rfl⟩
theorem go_s {t : T} {y : T ⊕ R} (h : go t = some y) : y = .inl t := by cases h; rfl
theorem it_t {c : Prop} [Decidable c] {a b : Option α} {r : α} (hc : c) (h : (if c then a else b) = some r) : a = some r := by rwa [if_pos hc] at h
theorem it_f {c : Prop} [Decidable c] {a b : Option α} {r : α} (hc : ¬ c) (h : (if c then a else b) = some r) : b = some r := by rwa [if_neg hc] at h
theorem lt_of_get {l : List α} {i : Int} {z : α} (h0 : 0 ≤ i) (h : l[i.toNat]? = some z) : i < l.length := by
  have := (List.getElem?_eq_some_iff.1 h).1
  omega
def Ok (o : Option α) (Q : α → Prop) : Prop := ∃ a, o = some a ∧ Q a
theorem Ok.of {o : Option α} {Q : α → Prop} {a : α} (h : o = some a) (q : Q a) : Ok o Q := ⟨a, h, q⟩
theorem Ok.eq {o : Option α} {a : α} (h : Ok o (· = a)) : o = some a := by obtain ⟨b, h, rfl⟩ := h; exact h
theorem Ok.mono {o : Option α} {Q Q' : α → Prop} (h : Ok o Q) (g : ∀ a, Q a → Q' a) : Ok o Q' := by obtain ⟨a, h, q⟩ := h; exact ⟨a, h, g a q⟩
theorem ok_some {a : α} {Q : α → Prop} : Ok (some a) Q ↔ Q a := ⟨fun ⟨_, h, q⟩ => by cases h; exact q, fun q => ⟨a, rfl, q⟩⟩
theorem ok_gd {c : Prop} [Decidable c] {k : Option α} {Q : α → Prop} : Ok (gd c k) Q ↔ c ∧ Ok k Q := by
  unfold gd
  by_cases h : c
  · simp [h]
  · simp [h, Ok]
theorem ok_bd {o : Option α} {f : α → Option β} {Q : β → Prop} : Ok (o.bind f) Q ↔ Ok o fun a => Ok (f a) Q := by
  cases o with
  | none => simp [Ok]
  | some a => simp [Ok]
theorem ok_if {c : Prop} [Decidable c] {a b : Option α} {Q : α → Prop} : Ok (if c then a else b) Q ↔ (c → Ok a Q) ∧ (¬ c → Ok b Q) := by
  by_cases h : c <;> simp [h]
theorem ok_at {l : List α} {i : Int} {Q : α → Prop} : Ok (at_ l i) Q ↔ 0 ≤ i ∧ ∃ z, l[i.toNat]? = some z ∧ Q z := by
  unfold at_
  by_cases h : 0 ≤ i <;> simp [h, Ok]
theorem ok_lt {e : α} {f : α → Option β} {Q : β → Prop} : Ok (lt e f) Q ↔ Ok (f e) Q := Iff.rfl
theorem ok_up {o : Option R} {Q : T ⊕ R → Prop} : Ok (up o) Q ↔ Ok o fun r => Q (.inr r) := by
  cases o with
  | none => simp [Ok, up]
  | some r => simp [Ok, up]
theorem ok_go {t : T} {Q : T ⊕ R → Prop} : Ok (go t) Q ↔ Q (.inl t) := ok_some
theorem ok_jn {K : S → Option R} {F : (S → Option R) → Option R} {Q : R → Prop} : Ok (jn K F) Q ↔ Ok (F K) Q := Iff.rfl
theorem ok_iter {B : T → Option (T ⊕ R)} {t0 : T} {Q : R → Prop} (I : T → Prop) (μ : T → Nat)
    (h : ∀ t, I t → Ok (B t) fun y => match y with | .inl t' => I t' ∧ μ t' < μ t | .inr r => Q r) (h0 : I t0) : Ok (iter B t0) Q := iter_inv I μ Q h t0 h0
end Go.S
end

section
namespace Go.S
abbrev Str := List UInt8
structure FilesFile where
  path : Str
  mode : Int
  data : Str
  deriving DecidableEq
structure IndexEntry where
  path : Str
  stage : Int
  mode : Int
  data : Str
  time : Int
  size : Int
  deriving DecidableEq
structure TmergeResultP where
  files : List FilesFile
  entries : List IndexEntry
  conflicts : List Str
  deriving DecidableEq
structure TmergeOne where
  file_path : Str
  file_mode : Int
  file_data : Str
  is : Bool
  deriving DecidableEq
structure DiffTableP where
  a : List Str
  b : List Str
  n : List Int
  deriving DecidableEq
structure DiffEdit where
  op : Int
  line : Str
  deriving DecidableEq
structure DiffMatch where
  a : Int
  b : Int
  n : Int
  deriving DecidableEq
end Go.S
end

section
namespace Go.V
open Go.RowKit Go.S
class Ext (M0 M : Mo) : Prop where
  out : ∀ h, M.on h → M0.on h
instance (priority := 2000) Ext.refl (M : Mo) : Ext M M := ⟨fun _ x => x⟩
instance (priority := 1000) Ext.tail (M0 A B : Mo) [i : Ext M0 B] : Ext M0 (A.and B) := ⟨fun h x => i.out h x.2⟩
instance Ext.tt (M : Mo) : Ext Mo.tt M := ⟨fun _ _ => trivial⟩
instance (priority := 2500) InM.svNil {α : Type} [Dat α] (M : Mo) : InM M (⟨none, 0, []⟩ : Sv α).ok := ⟨fun _ _ => ⟨Nat.le_refl _, by simp [maxLen], fun h => absurd rfl h, fun _ _ h => by simp at h, fun _ h => by cases h⟩⟩
section
variable {P : Program} {N : Nat} {c : Cx} {ops : Array Oper} {Q Q1 : Exit → Act → World → Prop} {rest : List Oper} {o : Oper} {ρ : Env} {M M' M1 M0 : Mo} {E E1 F A : Ow} {v u : Value} {X S T R : Type}
  {d : Nat} {od : Option Nat} {ty : TypeId} {pos : String} {after : Array Edge} {gd : Option (Nat × Bool)} {x y : Operand} {t t' e : TypeId} {α : Type} [Dat α] {f : FuncId} {args : List Value} {p q : Code}
theorem VC.cutJ {K : T → Option R} {G : (T → Option R) → Option R} {r : R} (pu : S → T) (ρ' : S → Env) (Mx : S → Mo) (E' : S → Ow) (hS : jn K G = some r)
    (h1 : ∀ k : T → Option R, G k = some r → VC P N c (Exit.then (Any (fun s => k (pu s) = some r) P N c ρ' (fun s => (Mx s).and M) E') Q) p ρ M E) (h2 : ∀ s, K (pu s) = some r → VC P N c Q q (ρ' s) ((Mx s).and M) (E' s)) : VC P N c Q (.seq p q) ρ M E := VC.cut (fun s => K (pu s) = some r) ρ' _ E' (h1 K hS) h2
theorem VL.mt {φ : S → Prop} {ρ' : S → Env} {Mx : S → Mo} {E' : S → Ow} (s : S) (ks : List Nat) (hq : ∀ a w, Any φ P N c ρ' (fun s => (Mx s).and M0) E' a w → Q .normal a w) (hφ : φ s) (e : ρ.keep ks = ρ' s) [i : InM M (Mx s)] [j : Ext M0 M] [l : EntO E (E' s)] : VL P N c ops Q [] ρ M E :=
  VL.any s ks hq hφ e (fun h m => ⟨i.out h m, j.out h m⟩) l.out
theorem VD.mt {D : List (Nat × Value)} {φ : S → Prop} {ρ' : S → Env} {Mx : S → Mo} {E' : S → Ow} (s : S) (ks : List Nat) (hq : ∀ a w, Any φ P N c ρ' (fun s => (Mx s).and M0) E' a w → Q .normal a w) (hφ : φ s) (e : ρ.keep ks = ρ' s) [i : InM M (Mx s)] [j : Ext M0 M] [l : EntO E (E' s)] : VD P N c ops Q [] D ρ M E :=
  VD.any s ks hq hφ e (fun h m => ⟨i.out h m, j.out h m⟩) l.out
theorem VC.skip_mt {φ : S → Prop} {ρ' : S → Env} {Mx : S → Mo} {E' : S → Ow} (s : S) (ks : List Nat) (hq : ∀ a w, Any φ P N c ρ' (fun s => (Mx s).and M0) E' a w → Q .normal a w) (hφ : φ s) (e : ρ.keep ks = ρ' s) [i : InM M (Mx s)] [j : Ext M0 M] [l : EntO E (E' s)] : VC P N c Q .skip ρ M E :=
  VC.skip_any s ks hq hφ e (fun h m => ⟨i.out h m, j.out h m⟩) l.out
theorem VC.exit_mt {id : Nat} {φ : S → Prop} {ρ' : S → Env} {Mx : S → Mo} {E' : S → Ow} (s : S) (ks : List Nat) (hq : ∀ a w, Any φ P N c ρ' (fun s => (Mx s).and M0) E' a w → Q (.exit id) a w) (hφ : φ s) (e : ρ.keep ks = ρ' s) [i : InM M (Mx s)] [j : Ext M0 M] [l : EntO E (E' s)] : VC P N c Q (.exit id) ρ M E :=
  VC.exit fun a w g st => hq a w ⟨s, hφ, g.sub (Env.sub_of e), st.mono (fun h m => ⟨i.out h m, j.out h m⟩) l.out⟩
def Rnd {S T R : Type} (B : T → Option (T ⊕ R)) (e : R) (m : Nat) (pu : S → T) (P : Program) (N : Nat) (c : Cx) (ρ' : S → Env) (Mx : S → Mo) (M0 : Mo) (E' : S → Ow) (a : Act) (w : World) : Prop :=
  ∃ (s : S) (k : Nat), iterN B k (pu s) = some e ∧ k < m + 1 ∧ Agr N (ρ' s) a ∧ St c ((Mx s).and M0) (E' s) w
theorem VC.iter {B : T → Option (T ⊕ R)} {r : R} (pu : S → T) (ρ' : S → Env) (Mx : S → Mo) (E' : S → Ow) (s0 : S) (ks : List Nat) (he : iter B (pu s0) = some r) (hρ : ρ.keep ks = ρ' s0) [i : InM M (Mx s0)] [l : EntO E (E' s0)]
    (round : ∀ s m y, B (pu s) = some y → Step B m r y → VC P N c (Exit.then (Rnd B r m pu P N c ρ' Mx M E') Q) p (ρ' s) ((Mx s).and M) (E' s)) : VC P N c Q (.loop p) ρ M E := by
  obtain ⟨n, hn⟩ := iter_ex he
  refine VC.loop (S := S × Nat) (fun s => iterN B s.2 (pu s.1) = some r) (fun s => ρ' s.1) (fun s => (Mx s.1).and M) (fun s => E' s.1) (fun s => s.2) (s0, n) ks hn hρ (fun h m => ⟨i.out h m, m⟩) l.out ?_
  rintro ⟨s, k⟩ hk
  obtain ⟨m, y, h1, h2, h3⟩ := iterN_s hk
  subst h1
  intro a w g st
  refine Code.wp_mono ?_ (round s m y h2 h3 a w g st)
  intro ex a' w' hx
  cases ex with
  | normal =>
    obtain ⟨s', k', q1, q2, q3, q4⟩ := hx
    exact ⟨(s', k'), ⟨q1, q2⟩, q3, q4⟩
  | _ => exact hx
theorem VL.rnd {B : T → Option (T ⊕ R)} {r : R} {m : Nat} {pu : S → T} {ρ' : S → Env} {Mx : S → Mo} {E' : S → Ow} (s : S) (ks : List Nat) (hq : ∀ a w, Rnd B r m pu P N c ρ' Mx M0 E' a w → Q .normal a w) (hφ : iterN B m (pu s) = some r) (e : ρ.keep ks = ρ' s) [i : InM M (Mx s)] [j : Ext M0 M] [l : EntO E (E' s)] : VL P N c ops Q [] ρ M E :=
  VL.nil fun a w g st => hq a w ⟨s, m, hφ, Nat.lt_succ_self m, g.sub (Env.sub_of e), st.mono (fun h m => ⟨i.out h m, j.out h m⟩) l.out⟩
theorem up2 {B : T → Option (T ⊕ R)} {o : Option R} {y : T ⊕ R} {m : Nat} {e : R} (h : up o = some y) (k : Step B m e y) : o = some e := by
  obtain ⟨c, h1, rfl⟩ := up_s h
  rw [h1]; exact congrArg some k
theorem go2 {B : T → Option (T ⊕ R)} {t : T} {y : T ⊕ R} {m : Nat} {e : R} (h : go t = some y) (k : Step B m e y) : iterN B m t = some e := by
  cases go_s h; exact k
theorem it_b {β : Type} {b : Bool} {x y : Option β} {r : β} (hb : b = false) (h : (if b = true then x else y) = some r) : y = some r := by
  rw [hb] at h; exact h
theorem q_catE {s s' z : List UInt8} (e1 : ρ.ev x = some (str s)) (e2 : ρ.ev y = some (str s')) (h : s.length + s'.length ≤ 9223372036854775807) (q : s ++ s' = z) : Qt P N c ⟨od, .binOp .add t x y t', ty, pos, after, gd⟩ (str z) ρ M E := by
  subst q; exact q_cat e1 e2 h
theorem q_stoE {s z : List UInt8} {k : IntKind} {n : Int} (hu : P.underlying t = some .string) (e1 : ρ.ev x = some (str s)) (e2 : ρ.ev y = some (.int k n)) (h0 : 0 ≤ n) (h1 : n ≤ s.length) (q : s.take n.toNat = z) : Qt P N c ⟨od, .slice t x none (some y) none, ty, pos, after, gd⟩ (str z) ρ M E := by
  subst q; exact q_sto hu e1 e2 h0 h1
theorem q_sfromE {s z : List UInt8} {k : IntKind} {n : Int} (hu : P.underlying t = some .string) (e1 : ρ.ev x = some (str s)) (e2 : ρ.ev y = some (.int k n)) (h0 : 0 ≤ n) (h1 : n ≤ s.length) (q : s.drop n.toNat = z) : Qt P N c ⟨od, .slice t x (some y) none none, ty, pos, after, gd⟩ (str z) ρ M E := by
  subst q; exact q_sfrom hu e1 e2 h0 h1
theorem VD.freeze {rr : List (Nat × Bool)} {D : List (Nat × Value)} (hE : Foc E A F) (h1 : ∀ h e, h.off e → M.on h → A e → M'.on (h.join e)) (k : VD P N c ops Q rr D ρ (M'.and M) F) : VD P N c ops Q rr D ρ M E := fun a w g s => k a w g (s.freeze hE h1)
theorem VD.shut {rr : List (Nat × Bool)} {D : List (Nat × Value)} (s : Sv α) (e : TypeId) [j : Fo E (s.own e) F] (hd : ∀ h, M.on h → ∀ z ∈ s.l, (Dat.deep z).on h) (k : VD P N c ops Q rr D ρ (s.ok.and M) F) : VD P N c ops Q rr D ρ M E :=
  VD.freeze j.out (fun a b dd m hA => Sv.own_ok (e := a.join b) (T := e) (by
    obtain ⟨q1, q2, q3⟩ := hA
    refine ⟨q1, q2, q3.imp id fun ⟨g, cur, w1, w2, w3⟩ => ⟨g, cur, w1, Hp.le_join_right dd _ _ w2, w3⟩⟩) fun z hz => (Dat.deep z).up (Hp.le_join_left a b) (hd a m z hz)) k
theorem q_lnm {β : Type} (g : α → β) {s : Sv α} {xs : List Operand} (ht : P.underlying t = some (.slice e)) (h : ρ.evs xs = some [s.val]) : Qt P N c ⟨od, .call { callee := .builtin .len, args := xs.toArray, argTypes := #[t] }, ty, pos, after, gd⟩ (i64 (s.l.map g).length) ρ M E := by
  rw [List.length_map]; exact q_ln ht h
theorem u8_z {n : Int} {z : UInt8} (h : 0 ≤ n ∧ n ≤ 255) (e : UInt8.ofNat n.toNat = z) : n = (z.toNat : Int) := by
  subst e
  have : (UInt8.ofNat n.toNat).toNat = n.toNat := by
    rw [UInt8.toNat_ofNat']
    omega
  rw [this]
  omega
theorem ap1 {a b : Nat} (h : a + b ≤ 4294967296) : a + b ≤ 9007199254740992 := by omega
theorem ap2 {a b bt : Nat} (h : a + b ≤ 4294967296) (hb : bt ≤ 32768) : (a + b) * bt ≤ 140737488355328 := Nat.le_trans (Nat.mul_le_mul h hb) (by decide)
theorem VL.sto {s : Sv α} {n : Int} (hu : P.underlying t = some (.slice e)) (hz : (P.info? e).map (·.size) = some (Dat.sz α)) (e0 : ρ.ev x = some s.val) (e1 : ρ.ev y = some (i64 n)) [hs : InM M s.ok] (h0 : 0 ≤ n) (h1 : n ≤ s.l.length) (hd : d < N)
    (kk : ∀ q : Sv α, q.l = s.l.take n.toNat → VL P N c ops Q rest ((d, q.val) :: ρ) (q.ok.and M) E) : VL P N c ops Q (⟨some d, .slice t x none (some y) none, ty, pos, after, none⟩ :: rest) ρ M E :=
  VL.part (lo' := none) (hi' := some n) (mx' := none) 0 n.toNat hu hz e0 rfl (by simp [optv, e1]) rfl rfl (by simp; omega) (.inl rfl) (fun _ => rfl) (by omega) (by omega) hd fun q hq => kk q (by rw [hq]; simp)
theorem VL.stom {s : Sv α} {z : Operand} {n : Int} (hu : P.underlying t = some (.slice e)) (hz : (P.info? e).map (·.size) = some (Dat.sz α)) (e0 : ρ.ev x = some s.val) (e1 : ρ.ev y = some (i64 n)) (e2 : ρ.ev z = some (i64 n)) [hs : InM M s.ok] (h0 : 0 ≤ n) (h1 : n ≤ s.l.length) (hd : d < N)
    (kk : ∀ q : Sv α, q.l = s.l.take n.toNat → VL P N c ops Q rest ((d, q.val) :: ρ) (q.ok.and M) E) : VL P N c ops Q (⟨some d, .slice t x none (some y) (some z), ty, pos, after, none⟩ :: rest) ρ M E :=
  VL.part (lo' := none) (hi' := some n) (mx' := some n) 0 n.toNat hu hz e0 rfl (by simp [optv, e1]) (by simp [optv, e2]) rfl (by simp; omega) (.inr (by congr 1; omega)) (fun _ => rfl) (by omega) (by omega) hd fun q hq => kk q (by rw [hq]; simp)
theorem q_fep {b j n : Nat} {cs vs : List Value} {Tb : TypeId} (h1 : AggOf P t n) (e1 : ρ.ev x = some (ptr b j)) [i : HasB E b cs Tb] (hv : (cs.drop j).take n = vs) (hn : vs.length = n) : Qt P N c ⟨od, .load t x, ty, pos, after, gd⟩ (.agg vs.toArray) ρ M E :=
  q_loads h1 hn e1 fun a b' dd m ee k u hk => by
    have := Rd.blk (M := M) (i := i) a b' dd m ee (j + k) u (by
      subst hv
      rw [List.getElem?_take] at hk
      split at hk
      · rw [List.getElem?_drop] at hk; exact hk
      · cases hk)
    rwa [Nat.zero_add] at this
theorem VL.deep (X : Mo) {s : Sv α} {i : Nat} {z : α} (hz : s.l[i]? = some z) [hs : InM M s.ok] (hX : ∀ h, (Dat.deep z).on h → X.on h) (k : VL P N c ops Q rest ρ (X.and M) E) : VL P N c ops Q rest ρ M E :=
  VL.addM X (fun h m => hX h ((hs.out h m).2.2.2.2 z (List.mem_of_getElem? hz))) k
theorem VD.deep {rr : List (Nat × Bool)} {D : List (Nat × Value)} (X : Mo) {s : Sv α} {i : Nat} {z : α} (hz : s.l[i]? = some z) [hs : InM M s.ok] (hX : ∀ h, (Dat.deep z).on h → X.on h) (k : VD P N c ops Q rr D ρ (X.and M) E) : VD P N c ops Q rr D ρ M E :=
  VD.addM X (fun h m => hX h ((hs.out h m).2.2.2.2 z (List.mem_of_getElem? hz))) k
end
end Go.V
end

section
namespace Go.V
open Go.RowKit Go.S
class ErNo where
  no : TypeId
  pf : TypeId
inductive Er where
  | nil
  | no (n : Int)
  | fault (b : Nat) (part : Str) (at_ : Int) (e : Er)
def Er.val [i : ErNo] : Er → Value
  | .nil => .nilIface
  | .no n => .iface i.no (i64 n)
  | .fault b _ _ _ => .iface i.pf (ptr b 0)
def Er.ok [ErNo] : Er → Mo
  | .nil => Mo.tt
  | .no _ => Mo.tt
  | .fault b p a e => (Cells b 0 [str p, i64 a, e.val]).and e.ok
def Er.pl : Er → Err
  | .nil => .nil
  | .no n => .no n
  | .fault _ p a e => .fault p a e.pl
def Er.isNil : Er → Bool
  | .nil => true
  | _ => false
section
variable [ErNo]
instance (priority := 2500) InM.erNil (M : Mo) : InM M Er.nil.ok := ⟨fun _ _ => trivial⟩
instance (priority := 2500) InM.erNo (M : Mo) (n : Int) : InM M (Er.no n).ok := ⟨fun _ _ => trivial⟩
instance (priority := 2500) InM.erFault (M : Mo) (b : Nat) (p : Str) (a : Int) (e : Er) [i : InM M (Cells b 0 [str p, i64 a, e.val])] [j : InM M e.ok] : InM M (Er.fault b p a e).ok := ⟨fun h x => ⟨i.out h x, j.out h x⟩⟩
instance : Dat Er := ⟨1, fun e => [e.val], fun _ => rfl, fun _ u h => by cases List.mem_singleton.1 h; rename_i e; cases e <;> rfl, Er.ok⟩
variable {P : Program} {N : Nat} {c : Cx} {ops : Array Oper} {Q Q1 : Exit → Act → World → Prop} {rest : List Oper} {o : Oper} {ρ : Env} {M M' M1 M0 : Mo} {E E1 F A : Ow} {v u : Value} {X S T R : Type}
  {d : Nat} {od : Option Nat} {ty : TypeId} {pos : String} {after : Array Edge} {gd : Option (Nat × Bool)} {x y : Operand} {t t' e : TypeId}
theorem q_ereq {ms : Array (String × TypeId)} (ht : P.underlying t = some (.interface ms)) {z : Er} (h : ρ.ev x = some z.val) : Qt P N c ⟨od, .binOp .eql t x (.const .nilIface) t', ty, pos, after, gd⟩ (.bool (decide (z.pl.isNil = true))) ρ M E := by
  cases z with
  | nil => exact q_nileq ht h
  | no n => exact q_ifeq ht h
  | fault b p a e => exact q_ifeq ht h
theorem q_erne {ms : Array (String × TypeId)} (ht : P.underlying t = some (.interface ms)) {z : Er} (h : ρ.ev x = some z.val) : Qt P N c ⟨od, .binOp .neq t x (.const .nilIface) t', ty, pos, after, gd⟩ (.bool (!decide (z.pl.isNil = true))) ρ M E := by
  cases z with
  | nil => exact q_nilne ht h
  | no n => exact q_ifne ht h
  | fault b p a e => exact q_ifne ht h
end
section
variable {P : Program} {N : Nat} {c : Cx} {ops : Array Oper} {Q Q1 : Exit → Act → World → Prop} {rest : List Oper} {o : Oper} {ρ : Env} {M M' M1 M0 : Mo} {E E1 F A : Ow} {v u : Value} {X S T R : Type}
  {d : Nat} {od : Option Nat} {ty : TypeId} {pos : String} {after : Array Edge} {gd : Option (Nat × Bool)} {x y : Operand} {t t' e : TypeId} {α : Type} [Dat α] {f : FuncId} {args : List Value}
theorem VL.guard {op : Op} {j s : Nat} {w : Bool} (hj : (ops[j]?).bind (·.dst) = some s) (hb : ρ.get s = some (.bool w))
    (k : VL P N c ops Q (⟨od, op, ty, pos, after, none⟩ :: rest) ρ M E) : VL P N c ops Q (⟨od, op, ty, pos, after, some (j, w)⟩ :: rest) ρ M E := fun a w' x y => by
  have h := k a w' x y
  unfold wpList at h ⊢
  rw [if_pos (by rw [wanted_of hj x hb _ rfl]; simp)]
  rw [if_pos (by rfl)] at h
  exact h
inductive RVs (P : Program) (ρ : Env) (M : Mo) (E : Ow) : List ResultVar → List Value → Prop
  | nil : RVs P ρ M E [] []
  | tmp {t : Nat} {v : Value} {rs : List ResultVar} {vs : List Value} (h : ρ.get t = some v) (r : RVs P ρ M E rs vs) : RVs P ρ M E (.tmp t :: rs) (v :: vs)
  | cell {t b n : Nat} {T : TypeId} {cs : List Value} {rs : List ResultVar} {vs : List Value} (hT : AggOf P T n) (h : ρ.get t = some (ptr b 0)) (hn : cs.length = n) (hb : Rd M E b 0 cs) (r : RVs P ρ M E rs vs) : RVs P ρ M E (.cell t T :: rs) (.agg cs.toArray :: vs)
  | cell1 {t b : Nat} {T : TypeId} {v : Value} {rs : List ResultVar} {vs : List Value} (hT : OneCell P T) (h : ρ.get t = some (ptr b 0)) (hb : Rd M E b 0 [v]) (r : RVs P ρ M E rs vs) : RVs P ρ M E (.cell t T :: rs) (v :: vs)
theorem mapM_list {β γ : Type} (g : β → Sem γ) (w : World) : ∀ (l : List β) (r : List γ), (∀ (i : Nat) (x : β) (y : γ), l[i]? = some x → r[i]? = some y → (g x).run P w = .ok y w) → l.length = r.length → (l.mapM g).run P w = .ok r w
  | [], [], _, _ => by simp
  | [], _ :: _, _, h => by simp at h
  | _ :: _, [], _, h => by simp at h
  | x :: l, y :: r, h, hl => by
    have ih := mapM_list g w l r (fun i => h (i + 1)) (by simpa using hl)
    rw [List.mapM_cons]
    simp only [Sem.run_bind, h 0 x y rfl rfl, Result.andThen_ok, ih, Sem.run_pure]
theorem RVs.len {rs : List ResultVar} {vs : List Value} (h : RVs P ρ M E rs vs) : rs.length = vs.length := by induction h <;> simp_all
theorem RVs.run {rs : List ResultVar} {vs : List Value} (h : RVs P ρ M E rs vs) {a : Act} {w : World} (g : Agr N ρ a) (s : St c M E w) : ∀ (i : Nat) (x : ResultVar) (y : Value), rs[i]? = some x → vs[i]? = some y →
    ((match x with
      | .tmp t => pure (a.tmps.getD t undef)
      | .cell b t => do loadVar t (← asAddr (a.tmps.getD b undef)) : Sem Value)).run P w = .ok y w := by
  induction h with
  | nil => intro i x y hx; simp at hx
  | tmp h r ih =>
    intro i x y hx hy
    cases i with
    | zero => simp only [List.getElem?_cons_zero, Option.some.injEq] at hx hy; subst hx; subst hy; simp [g.tmp h]
    | succ i => exact ih i x y (by simpa using hx) (by simpa using hy)
  | @cell t b n T cs rs vs hT h hn hb r ih =>
    intro i x y hx hy
    cases i with
    | zero =>
      simp only [List.getElem?_cons_zero, Option.some.injEq] at hx hy; subst hx; subst hy
      have hl := run_loadCells_list (P := P) w ⟨b, 0, none⟩ cs (fun j u hj => by rw [add_none]; exact hb.cell s hj)
      have hlv : (loadVar T ⟨b, 0, none⟩).run P w = .ok (.agg cs.toArray) w := by
        simp only [loadVar, Sem.run_bind, (hT w).1, (hT w).2, Result.andThen_ok, if_true, ← hn, hl, Sem.run_pure]
      have ha : (asAddr (ptr b 0)).run P w = .ok ⟨b, 0, none⟩ w := rfl
      simp only [g.tmp h, Sem.run_bind, ha, Result.andThen_ok, hlv]
    | succ i => exact ih i x y (by simpa using hx) (by simpa using hy)
  | @cell1 t b T v rs vs hT h hb r ih =>
    intro i x y hx hy
    cases i with
    | zero =>
      simp only [List.getElem?_cons_zero, Option.some.injEq] at hx hy; subst hx; subst hy
      have hc := hb.cell s (j := 0) rfl
      simp only [Nat.add_zero] at hc
      have hlv : (loadVar T ⟨b, 0, none⟩).run P w = .ok v w := by
        simp only [loadVar, Sem.run_bind, hT w, Result.andThen_ok]
        simp [load, Sem.run, hc, go_sem]
      have ha : (asAddr (ptr b 0)).run P w = .ok ⟨b, 0, none⟩ w := rfl
      simp only [g.tmp h, Sem.run_bind, ha, Result.andThen_ok, hlv]
    | succ i => exact ih i x y (by simpa using hx) (by simpa using hy)
def retv : List Value → Value
  | [v] => v
  | vs => .tuple vs.toArray
theorem finG {fn : Func} {val : X → Value} {φ : X → Prop} {M2 : X → Mo} {E2 : X → Ow} {rs : List ResultVar} {vs : List Value} {y : Exit} (hy : y = .normal ∨ y = .ret) (hres : fn.results = rs.toArray) (hv : RVs P ρ M E rs vs) (x : X) (hx : retv vs = val x) (hφ : φ x) (h1 : ∀ h, M.on h → (M2 x).on h) (h2 : ∀ e, E e → E2 x e) :
    ∀ a w, Agr N ρ a → St c M E w → bodyPost P fn (fun en w' => ∃ r, en = .returned r ∧ Post val φ M2 E2 c r w') y a w := fun a w g s => by
  refine post_ret hy (v := retv vs) ?_ g.defers ⟨_, rfl, x, hx, hφ, s.mono h1 h2⟩
  unfold results
  rw [hres]
  have h := mapM_list (P := P) _ w rs vs (hv.run g s) hv.len
  simp only [List.mapM_toArray, Sem.run_bind, Sem.run_map]
  erw [h]
  simp only [Result.andThen_ok, Sem.run_pure]
  congr 1
  cases vs with
  | nil => rfl
  | cons v vs => cases vs <;> simp [retv]
end
end Go.V
end

section
namespace Go.V
open Go.RowKit
section
variable {P : Program} {t t' e : TypeId}
theorem run_appS0 {w : World} {ts : TypeId} {i : TypeInfo} (hu : P.underlying t = some (.slice e)) (hs : P.underlying t' = some .string) (hi : P.info? e = some i) (hsz : i.size = 1) (a : Option Addr) (n c : Nat) (hlc : n ≤ c) :
   (Builtin.append_ #[t, t'] ts #[.slice a n c, .string ⟨⟨[]⟩⟩]).run P w = .ok (.slice a n c) w := by
  have hf := Lib.run_firstCells_string (P := P) w 1 ⟨⟨[]⟩⟩
  have h0 : (⟨⟨[]⟩⟩ : ByteArray).size = 0 := rfl
  rw [h0] at hf
  cases a <;> simp [Builtin.append_, run_underlying hu, run_underlying hs, sizeOf, typeInfo, hi, hsz, Builtin.lenOf, h0, hlc, hf, Lib.strCells, storeCells]
end
open Go.S
instance : Dat UInt8 := ⟨1, fun u => [.int .u8 u.toNat], fun _ => rfl, fun _ _ h => by cases List.mem_singleton.1 h; rfl, fun _ => Mo.tt⟩
instance : Flat UInt8 := ⟨fun _ => rfl⟩
theorem enc_str (l : Str) : l.flatMap (Dat.enc (α := UInt8)) = Lib.strCells ⟨⟨l⟩⟩ := by
  unfold Lib.strCells
  induction l with
  | nil => rfl
  | cons x r ih => simp only [List.flatMap_cons, ih]; rfl
section
variable {P : Program} {N : Nat} {c : Cx} {ops : Array Oper} {Q Q1 : Exit → Act → World → Prop} {rest : List Oper} {o : Oper} {ρ : Env} {M M' M1 M0 : Mo} {E E1 F A : Ow} {v u : Value} {X S T R : Type}
  {d : Nat} {od : Option Nat} {ty : TypeId} {pos : String} {after : Array Edge} {gd : Option (Nat × Bool)} {x y : Operand} {t t' e tb : TypeId} {f : FuncId} {args : List Value}
theorem run_appS {w : World} {h z : Hp} {s : Sv UInt8} {r : Str} {ts : TypeId} {i : TypeInfo} (hu : P.underlying t = some (.slice e)) (hs : P.underlying t' = some .string) (hi : P.info? e = some i) (hz : i.zero = some (.int .u8 0)) (hsz : i.size = 1) (hby : i.bytes = 1)
    (hoff : h.off z) (l : h.le (wh w)) (k : z.le (wh w)) (ho : s.own e z) (hlen : s.l.length + r.length ≤ 4294967296) :
    ∃ (s' : Sv UInt8) (w' : World), (Builtin.append_ #[t, t'] ts #[s.val, str r]).run P w = .ok s'.val w' ∧ s'.l = s.l ++ r ∧ ((s.c = 0 → s.a = none) → s'.c = 0 → s'.a = none) ∧ St ⟨w, h, fun b => z b ≠ none⟩ Mo.tt (s'.own e) w' := by
  have hmax : s.l.length + r.length ≤ maxLen := by unfold maxLen; omega
  have hd : Dat.sz UInt8 = 1 := rfl
  have hrs : (⟨⟨r⟩⟩ : ByteArray).size = r.length := rfl
  obtain ⟨hlc, hcm, hcase⟩ := ho
  by_cases hr0 : r = []
  · have hrun : (Builtin.append_ #[t, t'] ts #[s.val, str r]).run P w = .ok s.val w := by
      rw [hr0]; exact run_appS0 hu hs hi hsz _ _ _ hlc
    refine ⟨s, w, hrun, by simp [hr0], fun q => q, ?_⟩
    rcases hcase with ⟨hl, hc⟩ | ⟨g, cur, ha, hg, hcs, ht⟩
    · exact ⟨⟨h, Hp.nil, trivial, ⟨hlc, hcm, .inl ⟨hl, hc⟩⟩, Hp.nil_off _, l, (fun b p hb => by cases hb), Hp.le.refl h, (fun b hb => .inl hb), (fun b hb => absurd rfl hb)⟩, fun b _ _ => rfl, rfl, rfl, rfl, Nat.le_refl _⟩
    · exact St.turn (A := s.own e) hg hoff trivial l ⟨hlc, hcm, .inr ⟨g, cur, ha, Hp.one_self _ _, hcs, ht⟩⟩ rfl (k _ _ hg) (fun _ _ => rfl) rfl rfl rfl
  · have hrp : 0 < r.length := List.length_pos_iff.2 hr0
    have hcap : ∀ old, s.l.length + r.length ≤ grownCap w (s.l.length + r.length) old e ∧ grownCap w (s.l.length + r.length) old e ≤ maxLen := fun old => ⟨grownCap_ge _ _ _ _, grownCap_le_maxLen _ _ _ _ hmax⟩
    have hz1 : (Value.int IntKind.u8 0).cells.size = 1 := rfl
    have hgrown : ∀ old, St ⟨w, h, fun b => z b ≠ none⟩ Mo.tt ((⟨some ⟨w.heap.size, 0, none⟩, grownCap w (s.l.length + r.length) old e, s.l ++ r⟩ : Sv UInt8).own e)
        (w.drew.alloc (.cells ((s.l.flatMap Dat.enc).toArray ++ (Lib.strCells ⟨⟨r⟩⟩).toArray ++ Builtin.zeroCells (Value.int .u8 0).cells (grownCap w (s.l.length + r.length) old e - (s.l.length + r.length))) e)) := fun old => by
      rw [← enc_str]
      refine St.newO (A := Sv.own _ e) (o := .cells ((s.l.flatMap Dat.enc).toArray ++ (r.flatMap Dat.enc).toArray ++ Builtin.zeroCells (Value.int .u8 0).cells (grownCap w (s.l.length + r.length) old e - (s.l.length + r.length))) e) ?_ trivial l ((Gr.drew w).trans (Gr.alloc w.drew _)) (heap_alloc_new w.drew _)
      refine ⟨by simpa using (hcap old).1, (hcap old).2, .inr ⟨_, _, rfl, Hp.one_self _ _, ?_, ?_⟩⟩
      · simp only [Array.size_append, List.size_toArray, size_zeroCells, hz1, hd, enc_len, Nat.mul_one]
        have := (hcap old).1
        omega
      · have e1 : (s.l ++ r).length * Dat.sz UInt8 = ((s.l.flatMap Dat.enc) ++ (r.flatMap Dat.enc)).length := by rw [List.length_append, List.length_append, enc_len, enc_len, Nat.add_mul]
        simp only [Array.toList_append, e1]
        rw [List.take_left]
        simp
    rcases hcase with ⟨hl, hc⟩ | ⟨g, cur, ha, hg, hcs, ht⟩
    · have hg0 := hgrown 0
      rw [hl] at hg0 hcap
      simp only [List.flatMap_nil, List.length_nil, Nat.zero_add, List.nil_append, Array.empty_append] at hg0 hcap
      refine ⟨⟨some ⟨w.heap.size, 0, none⟩, grownCap w r.length 0 e, r⟩, _, ?_, by rw [hl]; rfl, fun _ q => by have := (hcap 0).1; simp only at q; omega, hg0⟩
      cases hsa : s.a with
      | none =>
        have hsv : s.val = .slice none 0 0 := by unfold Sv.val; rw [hsa, hl, hc]; rfl
        have hrun := run_append_nil_string (P := P) w t t' ts e i (.int .u8 0) hu hs hi hz ⟨⟨r⟩⟩ (by rw [hrs]; omega) (by rw [hrs]; omega) (by rw [hrs, hby]; omega)
        have e1 : ((⟨⟨r⟩⟩ : ByteArray).data.map fun b => Value.int .u8 b.toNat) = (Lib.strCells ⟨⟨r⟩⟩).toArray := by
          apply Array.ext'
          simp [Lib.strCells]
        rw [e1, hrs] at hrun
        rw [hsv]
        exact hrun
      | some ad =>
        have hsv : s.val = .slice (some ad) 0 0 := by unfold Sv.val; rw [hsa, hl, hc]; rfl
        have hrun := Lib.run_append_grow_string (P := P) w t t' ts e i (.int .u8 0) hu hs hi hz ad 0 0 [] (by simp) (fun j v hj => by simp at hj) ⟨⟨r⟩⟩ (by rw [hrs]; omega) (by rw [hrs]; omega) (by rw [hrs, hby]; exact growslice_fits (by omega) (by omega))
        rw [hrs] at hrun
        rw [hsv]
        simpa [Sv.val] using hrun
    · have hsv : s.val = .slice (some ⟨g, 0, none⟩) s.l.length s.c := by unfold Sv.val; rw [ha]
      have hwg : w.heap[g]? = some (.cells cur e (0, 0)) := k _ _ hg
      rw [hd, Nat.mul_one] at hcs ht
      by_cases hroom : s.l.length + r.length ≤ s.c
      · have hrun := Lib.run_append_room_string (P := P) w t t' ts e i hu hs hi hsz g s.l.length s.c cur hwg ⟨⟨r⟩⟩ (by rw [hrs]; exact hroom) (by rw [hrs]; omega)
        rw [hrs] at hrun
        refine ⟨⟨some ⟨g, 0, none⟩, s.c, s.l ++ r⟩, w.setRow g (cur.toList.take s.l.length ++ Lib.strCells ⟨⟨r⟩⟩ ++ cur.toList.drop (s.l.length + r.length)).toArray, ?_, rfl, fun _ q => by simp only at q; omega, ?_⟩
        · rw [hsv]; simpa [Sv.val] using hrun
        · refine St.turn (A := Sv.own _ e) (b := g) hg hoff trivial l ⟨by simpa using hroom, hcm, .inr ⟨g, _, rfl, Hp.one_self _ _, ?_, ?_⟩⟩ (by simp [World.setRow]) (setRow_heap w g cur _ e _ hwg) (fun j hj => setRow_other w g j _ hj) rfl rfl rfl
          · simp only [List.size_toArray, List.length_append, List.length_take, List.length_drop, Array.length_toList, Lib.strCells_length, hd]
            rw [hrs]
            omega
          · rw [ht, ← enc_str]
            have e1 : (s.l ++ r).length * Dat.sz UInt8 = ((s.l.flatMap Dat.enc) ++ (r.flatMap Dat.enc)).length := by rw [List.length_append, List.length_append, enc_len, enc_len, Nat.add_mul]
            simp only [e1]
            rw [List.take_left]
            simp
      · have holds : ∀ j v, (s.l.flatMap Dat.enc)[j]? = some v → w.cell? ((⟨g, 0, none⟩ : Addr).add j) = some v := fun j v hj => by
          rw [add_none]
          have hb' : s.b = g := by simp [Sv.b, ha]
          have ho' : s.o = 0 := by simp [Sv.o, ha]
          have hown : s.own e z := ⟨hlc, hcm, .inr ⟨g, cur, ha, hg, by rw [hd, Nat.mul_one]; exact hcs, by rw [hd, Nat.mul_one]; exact ht⟩⟩
          have := at_all (h := z) (b := s.b) (o := s.o) (fun i x hx => Sv.own_get hown hx) (by decide) j v hj
          rw [hb', ho'] at this
          exact cell_of_le k this
        have hrun := Lib.run_append_grow_string (P := P) w t t' ts e i (.int .u8 0) hu hs hi hz ⟨g, 0, none⟩ s.l.length s.c (s.l.flatMap Dat.enc) (by rw [enc_len, hsz]; rfl) holds ⟨⟨r⟩⟩ (by rw [hrs]; omega) (by rw [hrs]; omega) (by rw [hrs, hby]; exact growslice_fits (by omega) (by omega))
        rw [hrs] at hrun
        refine ⟨⟨some ⟨w.heap.size, 0, none⟩, grownCap w (s.l.length + r.length) s.c e, s.l ++ r⟩, _, ?_, rfl, fun _ q => by have := (hcap s.c).1; simp only at q; omega, hgrown s.c⟩
        rw [hsv]
        simpa [Sv.val] using hrun
theorem VL.appS {s : Sv UInt8} {r : Str} {xs : List Operand} (hu : P.underlying t = some (.slice e)) (hs : P.underlying t' = some .string) (hi : ((P.info? e).map fun i => (i.size, i.bytes, i.zero)) = some (1, 1, some (.int .u8 0)))
    (ha : ρ.evs xs = some [s.val, str r]) (hE : Foc E (s.own e) F) (hlen : s.l.length + r.length ≤ 4294967296) (hd : d < N)
    (k : ∀ s' : Sv UInt8, s'.l = s.l ++ r → ((s.c = 0 → s.a = none) → s'.c = 0 → s'.a = none) → VL P N c ops Q rest ((d, s'.val) :: ρ) M (Ow.star (s'.own e) F)) :
    VL P N c ops Q (⟨some d, .call { callee := .builtin .append, args := xs.toArray, argTypes := #[t, t'] }, ty, pos, after, none⟩ :: rest) ρ M E := by
  cases hj : P.info? e with
  | none => rw [hj] at hi; cases hi
  | some j =>
    rw [hj] at hi
    simp only [Option.map_some, Option.some.injEq, Prod.mk.injEq] at hi
    obtain ⟨h1, h2, h3⟩ := hi
    · refine VL.big (X := Sv UInt8) (φ := fun s' => s'.l = s.l ++ r ∧ ((s.c = 0 → s.a = none) → s'.c = 0 → s'.a = none)) (val := Sv.val) (M2 := fun _ => Mo.tt) (A2 := fun s' => s'.own e) hE (fun a w h z g hoff m hA l kk => ?_) hd fun s' hs' => VL.strip (k s' hs'.1 hs'.2)
      obtain ⟨s', w', q1, q2, q3, q4⟩ := run_appS (P := P) (ts := ty) hu hs hj h3 h1 h2 hoff l kk hA hlen
      refine ⟨s'.val, w', ?_, s', ⟨q2, q3⟩, rfl, q4⟩
      simp only [execOp, resolve, List.map_toArray, g.evs ha, Sem.run_bind, Sem.run_pure, Result.andThen_ok, invoke, builtin, q1]
theorem guard_ptr (op : BinOp) (a b : Option Addr) (w : World) : (eqGuard op t x y (.pointer a) (.pointer b)).run P w = .ok () w := by
  unfold eqGuard
  cases op <;> simp [go_sem] <;> rfl
theorem q_cvE (e1 : ρ.ev x = some v) (h : ∀ a w, Agr N ρ a → St c M E w → (convert t t' v).run P w = .ok u w) : Qt P N c ⟨od, .convert t t' x, ty, pos, after, gd⟩ u ρ M E := Qt.of_run fun a w g s => by
  simp only [execOp, g.ev e1, Sem.run_bind, h a w g s, Result.andThen_ok, Sem.run_pure]
theorem q_ext {xs : List Operand} {ts : Array TypeId} {f : FuncId} {vs : List Value} (ha : ρ.evs xs = some vs) (h : ∀ w, (callFunc f vs.toArray).run P w = .ok (.value v) w) : Qt P N c ⟨od, .call { callee := .value (.func f), args := xs.toArray, argTypes := ts }, ty, pos, after, gd⟩ v ρ M E := Qt.of_run fun a w g s => by
  have e := g.evs ha
  subst e
  simp [execOp, resolve, Act.eval, Deferred.ofValue, invoke, h]
theorem q_sdata {s : Sv UInt8} {xs : List Operand} {ts : Array TypeId} (ha : ρ.evs xs = some [s.val]) (hc : s.c = 0 → s.a = none) : Qt P N c ⟨od, .call { callee := .builtin .unsafeSliceData, args := xs.toArray, argTypes := ts }, ty, pos, after, gd⟩ (.pointer s.a) ρ M E := Qt.of_run fun a w g _ => by
  have h : (Builtin.unsafeSliceData_ ts ty #[s.val]).run P w = .ok (.pointer s.a) w := by
    unfold Sv.val
    cases ha : s.a with
    | none => rfl
    | some q =>
      obtain ⟨k, hk⟩ : ∃ k, s.c = k + 1 := ⟨s.c - 1, by
        have : s.c ≠ 0 := fun e => by have := hc e; rw [ha] at this; cases this
        omega⟩
      rw [hk]; rfl
  simp only [execOp, resolve, List.map_toArray, g.evs ha, Sem.run_bind, Sem.run_pure, Result.andThen_ok, invoke, builtin, h]
theorem VL.ustr {s : Sv UInt8} {xs : List Operand} {pt it : TypeId} (ha : ρ.evs xs = some [.pointer s.a, i64 s.l.length]) (hE : Foc E (s.own e) F) (hd : d < N)
    (H : ∀ w (h z : Hp), h.off z → h.le (wh w) → z.le (wh w) → s.own e z → ∃ w', (Builtin.unsafeString_ #[pt, it] ty #[.pointer s.a, i64 s.l.length]).run P w = .ok (str s.l) w' ∧ St ⟨w, h, fun b => z b ≠ none⟩ Mo.tt Ow.emp w')
    (k : VL P N c ops Q rest ((d, str s.l) :: ρ) M F) : VL P N c ops Q (⟨some d, .call { callee := .builtin .unsafeString, args := xs.toArray, argTypes := #[pt, it] }, ty, pos, after, none⟩ :: rest) ρ M E := by
  refine VL.big (X := Unit) (φ := fun _ => True) (val := fun _ => str s.l) (M2 := fun _ => Mo.tt) (A2 := fun _ => Ow.emp) hE (fun a w h z g hoff m hA l kk => ?_) hd fun _ _ => VL.strip (VL.drop Foc.head k)
  obtain ⟨w', q1, q2⟩ := H w h z hoff l kk hA
  refine ⟨str s.l, w', ?_, (), trivial, rfl, q2⟩
  simp only [execOp, resolve, List.map_toArray, g.evs ha, Sem.run_bind, Sem.run_pure, Result.andThen_ok, invoke, builtin, q1]
def Bd (T e : TypeId) (b : Nat) (l : Str) : Ow := fun z => ∃ (p : Value) (s : Sv UInt8), (p = .pointer none ∨ p = ptr b 0) ∧ s.l = l ∧ (s.c = 0 → s.a = none) ∧ Ow.star (Blk b [p, s.val] T) (s.own e) z
theorem Bd.mk {T e : TypeId} {b : Nat} {l : Str} {p : Value} {s : Sv UInt8} (h1 : p = .pointer none ∨ p = ptr b 0) (h2 : s.l = l) (h3 : s.c = 0 → s.a = none) {z : Hp} (h : Ow.star (Blk b [p, s.val] T) (s.own e) z) : Bd T e b l z := ⟨p, s, h1, h2, h3, h⟩
theorem Ct.exE {P : Program} {f : FuncId} {args : List Value} {M : Mo} {S X : Type} {φ0 : S → Prop} {E0 : S → Ow} {val : X → Value} {φ : X → Prop} {M2 : X → Mo} {E2 : X → Ow} (he : ∀ (xs : Array Value) (w : World), (callFunc f xs).run P w = .ok (.enter f xs) w)
    (h : ∀ s, φ0 s → Ct P f args M (E0 s) val φ M2 E2) : Ct P f args M (fun z => ∃ s, φ0 s ∧ E0 s z) val φ M2 E2 := ⟨he, fun w hp e m ⟨s, q, ee⟩ => (h s q).calls w hp e m ee⟩
theorem Ct.monoE {P : Program} {f : FuncId} {args : List Value} {M : Mo} {X : Type} {E0 E1 : Ow} {val : X → Value} {φ : X → Prop} {M2 : X → Mo} {E2 : X → Ow} (h : Ct P f args M E1 val φ M2 E2) (hE : ∀ z, E0 z → E1 z) : Ct P f args M E0 val φ M2 E2 := ⟨h.entry, fun w hp e m ee => h.calls w hp e m (hE e ee)⟩
theorem run_callV {xs : List Operand} {a : Act} {w : World} {ts : Array TypeId} {f : FuncId} {vs caps : List Value} (hf : ∀ (xs : Array Value) (w : World), (callFunc f xs).run P w = .ok (.enter f xs) w) (hx : a.eval x = .func (.func f) #[] caps.toArray) (ha : xs.map a.eval = vs) :
    (execOp a.eval ⟨od, .call { callee := .value x, args := xs.toArray, argTypes := ts }, ty, pos, after, gd⟩).run P w = .ok (.enter f (vs ++ caps).toArray) w := by
  subst ha
  simp [execOp, resolve, hx, Deferred.ofValue, invoke, hf]
theorem q_callVC {φ : X → Prop} {val : X → Value} {M2 : X → Mo} {E2 : X → Ow} {xs : List Operand} {ts : Array TypeId} {f : FuncId} {vs caps : List Value} (h : Ct P f (vs ++ caps) M1 Ow.emp val φ M2 E2) (hx : ρ.ev x = some (.func (.func f) #[] caps.toArray)) (ha : ρ.evs xs = some vs) [i : InR M E M1] (hv : ∀ y, φ y → val y = v) :
    Qt P N c ⟨od, .call { callee := .value x, args := xs.toArray, argTypes := ts }, ty, pos, after, gd⟩ v ρ M E := fun a w g s => by
  unfold Oper.quietAt
  rw [run_callV h.entry (g.ev hx) (g.evs ha)]
  exact ⟨rfl, h.gr i.out s hv⟩
theorem VL.toBd {Tb : TypeId} (e : TypeId) (b : Nat) [j : UpdB E b [.pointer none, .slice none 0 0] Tb F] (k : VL P N c ops Q rest ρ M (Ow.star (Bd Tb e b []) F)) : VL P N c ops Q rest ρ M E :=
  VL.mono (fun _ x => x) (fun z hz => by
    obtain ⟨x, y, d, q, hx, hy⟩ := j.out z hz
    exact ⟨x, y, d, q, ⟨.pointer none, ⟨none, 0, []⟩, .inl rfl, rfl, fun _ => rfl, x, Hp.nil, fun _ => .inr rfl, (Hp.join_nil x).symm, hx, Nat.le_refl _, by unfold maxLen; simp, .inl ⟨rfl, rfl⟩⟩, hy⟩) k
end
end Go.V
end

section
namespace Go.V
open Go.RowKit
section
variable {P : Program} {N : Nat} {c : Cx} {ops : Array Oper} {Q Q1 : Exit → Act → World → Prop} {rest : List Oper} {o : Oper} {ρ : Env} {M M' M1 M0 : Mo} {E E1 F A : Ow} {v u : Value} {X S T R : Type}
  {d : Nat} {od : Option Nat} {ty : TypeId} {pos : String} {after : Array Edge} {gd : Option (Nat × Bool)} {x y : Operand} {t t' e tb : TypeId} {f : FuncId} {args : List Value}
theorem q_peqn {te : TypeId} {a : Option Addr} (ht : P.underlying t = some (.pointer te)) (e1 : ρ.ev x = some (.pointer a)) : Qt P N c ⟨od, .binOp .eql t x (.const (.pointer none)) t', ty, pos, after, gd⟩ (.bool a.isNone) ρ M E :=
  q_bin e1 rfl (guard_ptr _ _ _) fun w => run_eql_pointer_nil (P := P) w t a (by rw [ht]; simp [Program.pointee, ht])
theorem q_pne {te : TypeId} {j : Nat} {a : Addr} (ht : P.underlying t = some (.pointer te)) (hi : (P.info? te).map (·.size) = some j) (e1 : ρ.ev x = some (.pointer (some a))) (e2 : ρ.ev y = some (.pointer (some a))) : Qt P N c ⟨od, .binOp .neq t x y t', ty, pos, after, gd⟩ (.bool false) ρ M E := by
  cases hj : P.info? te with
  | none => rw [hj] at hi; cases hi
  | some i => exact q_bin e1 e2 (guard_ptr _ _ _) fun w => Lib.run_neq_ptr_same (P := P) w a ht hj
theorem shape_of {b : Nat} {cs : List Value} {T : TypeId} [i : HasB E b cs T] {w : World} (s : St c M E w) : w.shape? b = some (T, cs.length) := by
  obtain ⟨⟨hp, e, m, ee, dd, l, k, _⟩, _⟩ := s
  have h := k _ _ (i.out e ee)
  simp only [wh] at h
  simp [World.shape?, h]
theorem q_tou {te T : TypeId} {n b : Nat} {cs : List Value} (hs : P.underlying t = some (.pointer te)) (hd : P.underlying t' = some .unsafePointer) (ht : (P.info? te).map (·.size) = some (n + 1)) (e1 : ρ.ev x = some (ptr b 0)) [i : HasB E b cs T] (hl : 0 < cs.length) : Qt P N c ⟨od, .convert t t' x, ty, pos, after, gd⟩ (ptr b 0) ρ M E := by
  cases hj : P.info? te with
  | none => rw [hj] at ht; cases ht
  | some j =>
    rw [hj] at ht
    have hz : j.size ≠ 0 := by
      have : j.size = n + 1 := by simpa using ht
      omega
    exact q_cvE e1 fun a w _ s => Lib.run_to_unsafe w ⟨b, 0, none⟩ hs hd hj hz (shape_of (i := i) s) hl
theorem q_fromu {te T : TypeId} {n b : Nat} {cs : List Value} (hs : P.underlying t = some .unsafePointer) (hd : P.underlying t' = some (.pointer te)) (ht : (P.info? te).map (·.size) = some n) (e1 : ρ.ev x = some (ptr b 0)) [i : HasB E b cs T] (hl : liesAt P P.depth T (cs.length / P.cellsOf T) 0 te 1 = true) : Qt P N c ⟨od, .convert t t' x, ty, pos, after, gd⟩ (ptr b 0) ρ M E := by
  cases hj : P.info? te with
  | none => rw [hj] at ht; cases ht
  | some j => exact q_cvE e1 fun a w _ s => Lib.run_from_unsafe w ⟨b, 0, none⟩ hs hd hj (shape_of (i := i) s) hl
theorem q_noEscape {fn : Func} {xs : List Operand} {ts : Array TypeId} (hf : P.funcs[f]? = some fn) (hname : (fn.name == "runtime.NumGoroutine") = false) (hb : fn.body.isNone = true) (hn : Extern.findNext fn = none) (he : Extern.find fn = some Extern.AbiNoEscape.same) (ha : ρ.evs xs = some [v]) :
    Qt P N c ⟨od, .call { callee := .value (.func f), args := xs.toArray, argTypes := ts }, ty, pos, after, gd⟩ v ρ M E := q_ext ha fun w => by
  rw [run_callFunc_extern hf hname hb hn he, Lib.run_noEscape]; rfl
theorem St.ustr {w : World} {h z : Hp} {s : Sv UInt8} {pt it e : TypeId} (hp : P.underlying pt = some (.pointer e)) (hc : P.cellsOf e = 1) (hoff : h.off z) (l : h.le (wh w)) (k : z.le (wh w)) (ho : s.own e z) :
    ∃ w', (Builtin.unsafeString_ #[pt, it] ty #[.pointer s.a, i64 s.l.length]).run P w = .ok (str s.l) w' ∧ St ⟨w, h, fun b => z b ≠ none⟩ Mo.tt Ow.emp w' := by
  by_cases h0 : s.l = []
  · refine ⟨w, ?_, ⟨⟨h, Hp.nil, trivial, trivial, Hp.nil_off _, l, (fun b p hb => by cases hb), Hp.le.refl h, (fun b hb => .inl hb), (fun b hb => absurd rfl hb)⟩, fun b _ _ => rfl, rfl, rfl, rfl, Nat.le_refl _⟩⟩
    rw [h0]
    exact Lib.run_unsafeString_none w pt it ty s.a
  · have ho' := ho
    obtain ⟨hlc, hcm, ⟨hl, _⟩ | ⟨g, cur, ha, hg, hcs, ht⟩⟩ := ho
    · exact absurd hl h0
    · have hwg : w.heap[g]? = some (.cells cur e (0, 0)) := k _ _ hg
      have hd : Dat.sz UInt8 = 1 := rfl
      rw [hd, Nat.mul_one] at hcs
      have hcell : ∀ j x, s.l[j]? = some x → w.cell? ((⟨g, 0, none⟩ : Addr).add j) = some (.int .u8 x.toNat) := fun j x hx => by
        have := Sv.own_get ho' hx 0 (.int .u8 x.toNat) rfl
        have hb : s.b = g := by simp [Sv.b, ha]
        have ho2 : s.o = 0 := by simp [Sv.o, ha]
        rw [hb, ho2, hd] at this
        rw [add_none]
        exact cell_of_le k (by simpa using this)
      have hr := Lib.run_unsafeString_row (P := P) w pt it ty e hp hc g cur.size (by simp [World.shape?, hwg]) s.l h0 (by omega) (by unfold maxLen at hcm; omega) hcell
      rw [ha]
      refine ⟨w.freeze ⟨g, 0, none⟩ s.l.length, hr, ?_⟩
      have hfz : (w.freeze ⟨g, 0, none⟩ s.l.length).heap.size = w.heap.size ∧ (∀ i, i ≠ g → (w.freeze ⟨g, 0, none⟩ s.l.length).heap[i]? = w.heap[i]?) ∧ (w.freeze ⟨g, 0, none⟩ s.l.length).os = w.os ∧ (w.freeze ⟨g, 0, none⟩ s.l.length).tape = w.tape ∧ (w.freeze ⟨g, 0, none⟩ s.l.length).output = w.output := by
        unfold World.freeze
        split
        · exact ⟨rfl, fun _ _ => rfl, rfl, rfl, rfl⟩
        · refine ⟨by simp, fun i hi => ?_, rfl, rfl, rfl⟩
          simp only [Array.getElem?_modify]
          rw [if_neg (by simpa using Ne.symm hi)]
      obtain ⟨f1, f2, f3, f4, f5⟩ := hfz
      have hne : ∀ i p, h i = some p → i ≠ g := fun i p hi q => by
        subst q
        rcases hoff i with q | q
        · rw [q] at hi; cases hi
        · rw [q] at hg; cases hg
      refine ⟨⟨h, Hp.nil, trivial, trivial, Hp.nil_off _, fun i p hi => ?_, (fun b p hb => by cases hb), Hp.le.refl h, (fun b hb => .inl hb), (fun b hb => absurd rfl hb)⟩, fun i hi hn => ?_, f3, f4, f5, by rw [f1]; exact Nat.le_refl _⟩
      · unfold wh
        rw [f2 i (hne i p hi)]
        exact l i p hi
      · exact f2 i fun q => hn (by show z i ≠ none; rw [q, hg]; simp)
end
end Go.V
end

section
namespace Go.V
open Go.RowKit
section
variable {P : Program} {N : Nat} {c : Cx} {ops : Array Oper} {Q Q1 : Exit → Act → World → Prop} {rest : List Oper} {o : Oper} {ρ : Env} {M M' M1 M0 : Mo} {E E1 F A : Ow} {v u : Value} {X S T R : Type}
  {d : Nat} {od : Option Nat} {ty : TypeId} {pos : String} {after : Array Edge} {gd : Option (Nat × Bool)} {x y : Operand} {t t' e tb : TypeId} {f : FuncId} {args : List Value} {k k' : IntKind} {m n : Int}
end
end Go.V
end

section
namespace Go.S
open Go
def sHr (k : IntKind) (x y : Int) : Int := x.fdiv (2 ^ min y.toNat k.bits)
end Go.S
namespace Go.V
open Go.RowKit Go.S
section
variable {P : Program} {N : Nat} {c : Cx} {ops : Array Oper} {Q Q1 : Exit → Act → World → Prop} {rest : List Oper} {o : Oper} {ρ : Env} {M M' M1 M0 : Mo} {E E1 F A : Ow} {v u : Value} {X S T R : Type}
  {d : Nat} {od : Option Nat} {ty : TypeId} {pos : String} {after : Array Edge} {gd : Option (Nat × Bool)} {x y : Operand} {t t' e tb : TypeId} {f : FuncId} {args : List Value} {k k' : IntKind} {m n : Int}
theorem q_shr (e1 : ρ.ev x = some (.int k m)) (e2 : ρ.ev y = some (.int k' n)) (h : 0 ≤ n) : Qt P N c ⟨od, .binOp .shr t x y t', ty, pos, after, gd⟩ (.int k (sHr k m n)) ρ M E := q_bin e1 e2 (guard_int _ _ _) fun w => by
  simp [binOp, Op.shift, go_sem, sHr, Int.not_lt.2 h]
theorem q_convW {k1 k2 : IntKind} (h1 : P.underlying t = some (.int k1)) (h2 : P.underlying t' = some (.int k2)) (e1 : ρ.ev x = some (.int k1 n)) : Qt P N c ⟨od, .convert t t' x, ty, pos, after, gd⟩ (.int k2 (k2.wrap n)) ρ M E := Qt.of_run fun a w g _ => by
  simp only [execOp, g.ev e1]
  simp [convert, run_underlying h1, run_underlying h2, Conv.intToInt, go_sem]
end
end Go.V
end

section
namespace Go.V
open Go.RowKit Go.S
section
variable {P : Program} {N : Nat} {c : Cx} {ops : Array Oper} {Q Q1 : Exit → Act → World → Prop} {rest : List Oper} {o : Oper} {ρ : Env} {M M' M1 M0 : Mo} {E E1 F A : Ow} {v u : Value} {X S T R : Type}
  {d : Nat} {od : Option Nat} {ty : TypeId} {pos : String} {after : Array Edge} {gd : Option (Nat × Bool)} {x y : Operand} {t t' e tb : TypeId} {f : FuncId} {args : List Value} {k k' : IntKind} {m n : Int}
theorem q_steql {xs ys : Array Value} {b : Bool} (hg : P.eqGuardType P.depth t = false) (h : ∀ w, (Op.equalIn 10000 t (.agg xs) (.agg ys)).run P w = .ok b w) (e1 : ρ.ev x = some (.agg xs)) (e2 : ρ.ev y = some (.agg ys)) : Qt P N c ⟨od, .binOp .eql t x y t', ty, pos, after, gd⟩ (.bool b) ρ M E := q_bin e1 e2 (fun w => run_eqGuard_agg w .eql t x y xs ys hg) fun w => by
  rw [run_eql_struct, h w]; rfl
theorem q_slss {s s' : List UInt8} (e1 : ρ.ev x = some (str s)) (e2 : ρ.ev y = some (str s')) : Qt P N c ⟨od, .binOp .lss t x y t', ty, pos, after, gd⟩ (.bool (Op.bytesLess s s')) ρ M E := q_bin e1 e2 (guard_str _ _ _) fun w => by
  simp [binOp, Op.stringOp, go_sem]
theorem q_sgtr {s s' : List UInt8} (e1 : ρ.ev x = some (str s)) (e2 : ρ.ev y = some (str s')) : Qt P N c ⟨od, .binOp .gtr t x y t', ty, pos, after, gd⟩ (.bool (!(Op.bytesLess s s' || decide (s = s')))) ρ M E := q_bin e1 e2 (guard_str _ _ _) fun w => by
  have h : (s == s') = decide (s = s') := beq_dec _ _
  simp [binOp, Op.stringOp, go_sem, h]
end
end Go.V
end

section
namespace Go.S
open Go
noncomputable def ixB (s : List UInt8) (c : Int) : Int := Lib.indexByte s c.toNat.toUInt8
noncomputable def cntB (s : List UInt8) (c : Int) : Int := (Lib.countByte s c.toNat.toUInt8 : Nat)
end Go.S
namespace Go.V
open Go.RowKit Go.S
section
variable {P : Program} {N : Nat} {c : Cx} {ops : Array Oper} {Q Q1 : Exit → Act → World → Prop} {rest : List Oper} {o : Oper} {ρ : Env} {M M' M1 M0 : Mo} {E E1 F A : Ow} {v u : Value} {X S T R : Type}
  {d : Nat} {od : Option Nat} {ty : TypeId} {pos : String} {after : Array Edge} {gd : Option (Nat × Bool)} {x y : Operand} {t t' e tb : TypeId} {f : FuncId} {args : List Value} {k k' : IntKind} {m n : Int}
theorem VL.s2b {s : Str} {u : TypeDesc} (hs : P.underlying t = some u) (hu : P.underlying t' = some (.slice e)) (he : P.underlying e = some (.int .u8)) (e1 : ρ.ev x = some (str s)) (hlen : s.length ≤ 4294967296) (hd : d < N)
    (kk : ∀ q : Sv UInt8, q.l = s → VL P N c ops Q rest ((d, q.val) :: ρ) (q.ok.and M) E) : VL P N c ops Q (⟨some d, .convert t t' x, ty, pos, after, none⟩ :: rest) ρ M E := by
  refine VL.newM (S := Sv UInt8) (val := Sv.val) (φ := fun q => q.l = s) (M2 := fun q => q.ok) (fun a w h g m l => ?_) hd kk
  have hr := Lib.run_convert_string_bytes (P := P) w t t' e ⟨⟨s⟩⟩ hs hu he
  have hsz : (⟨⟨s⟩⟩ : ByteArray).size = s.length := rfl
  have hmax : s.length ≤ maxLen := by unfold maxLen; omega
  rw [hsz] at hr
  refine ⟨⟨some ⟨w.heap.size, 0, none⟩, grownCap w s.length 0 e, s⟩, Lib.bytesWorld w e ⟨⟨s⟩⟩, .cells (Lib.bytesCells w e ⟨⟨s⟩⟩) e ((Lib.bytesCells w e ⟨⟨s⟩⟩).size, (Lib.bytesCells w e ⟨⟨s⟩⟩).size + 1), ?_, rfl, ⟨?_, ?_, ?_, by rw [Lib.bytesWorld_size]; omega, fun j hj => Lib.bytesWorld_at_old w e _ j hj⟩, Lib.bytesWorld_at_new w e _, ?_⟩
  · simp only [execOp, g.ev e1, Sem.run_bind, hr, Result.andThen_ok, Sem.run_pure]; rfl
  · simp [Lib.bytesWorld, World.freeze, World.alloc, World.drew, -World.alloc_eq, -World.drew_eq]
  · simp [Lib.bytesWorld, World.freeze, World.alloc, World.drew, -World.alloc_eq, -World.drew_eq]
  · simp [Lib.bytesWorld, World.freeze, World.alloc, World.drew, -World.alloc_eq, -World.drew_eq]
  · have hblk : (h.join (Hp.one w.heap.size (.cells (Lib.bytesCells w e ⟨⟨s⟩⟩) e ((Lib.bytesCells w e ⟨⟨s⟩⟩).size, (Lib.bytesCells w e ⟨⟨s⟩⟩).size + 1)))) w.heap.size = some (.cells (Lib.bytesCells w e ⟨⟨s⟩⟩) e ((Lib.bytesCells w e ⟨⟨s⟩⟩).size, (Lib.bytesCells w e ⟨⟨s⟩⟩).size + 1)) := by
      have hh : h w.heap.size = none := by
        cases hb : h w.heap.size with
        | none => rfl
        | some p => have := (Array.getElem?_eq_some_iff.1 (l _ p hb)).1; omega
      unfold Hp.join
      rw [hh, Hp.one_self]
    refine ⟨grownCap_ge _ _ _ _, grownCap_le_maxLen _ _ _ _ hmax, fun _ => by simp [Sv.b, Sv.o], fun i z hz => ?_, fun _ _ => trivial⟩
    intro j v hj
    have hd1 : Dat.sz UInt8 = 1 := rfl
    have hj0 : j = 0 := by
      cases j with
      | zero => rfl
      | succ j => simp [Dat.enc] at hj
    subst hj0
    have hv : v = .int .u8 z.toNat := by simp [Dat.enc] at hj; exact hj.symm
    subst hv
    have hi := (List.getElem?_eq_some_iff.1 hz).1
    simp only at hz hi
    have hzz := (List.getElem?_eq_some_iff.1 hz).2
    have hcell : (Lib.bytesCells w e ⟨⟨s⟩⟩)[i]? = some (.int .u8 z.toNat) := by
      simp only [Lib.bytesCells, Array.getElem?_append]
      simp [hi, hzz]
    show (h.join _).cell w.heap.size (0 + i * 1 + 0) = _
    unfold Hp.cell
    rw [hblk]
    simpa using hcell
theorem q_extern {fn : Func} {ex : Array Value → Sem Value} {xs : List Operand} {vs : List Value} {ts : Array TypeId} (hf : P.funcs[f]? = some fn) (hname : (fn.name == "runtime.NumGoroutine") = false) (hb : fn.body.isNone = true) (hn : Extern.findNext fn = none) (he : Extern.find fn = some ex) (ha : ρ.evs xs = some vs) (h : ∀ w : World, (ex vs.toArray).run P w = .ok v w) :
    Qt P N c ⟨od, .call { callee := .value (.func f), args := xs.toArray, argTypes := ts }, ty, pos, after, gd⟩ v ρ M E := q_ext ha fun w => by
  rw [run_callFunc_extern hf hname hb hn he, h w]; rfl
theorem x_ixS {P : Program} (s : Str) (c : Int) (w : World) : (Extern.BytealgIndexByte.indexByte #[str s, .int .u8 c]).run P w = .ok (i64 (ixB s c)) w := Lib.run_indexByteString ⟨⟨s⟩⟩ c w
theorem x_cntS {P : Program} (s : Str) (c : Int) (w : World) : (Extern.BytealgCount.count #[str s, .int .u8 c]).run P w = .ok (i64 (cntB s c)) w := Lib.run_countString ⟨⟨s⟩⟩ c w
theorem q_mkfn {g : FuncId} {xs : List Operand} {vs : List Value} (ha : ρ.evs xs = some vs) : Qt P N c ⟨od, .makeFunc (.func g) #[] xs.toArray, ty, pos, after, gd⟩ (.func (.func g) #[] vs.toArray) ρ M E := Qt.of_run fun a w h _ => by
  have e := h.evs ha
  subst e
  simp [execOp, Instr.makeFunc]
theorem Er.one [ErNo] (z : Er) : z.val.oneCell' = true := by cases z <;> rfl
theorem wr_i32 (u : UInt8) : IntKind.i32.wrap (u.toNat : Int) = (u.toNat : Int) := IntWalk.i32_in _ (by have := u.toNat_lt; omega)
theorem q_min {m n : Int} {xs : List Operand} {ts : Array TypeId} (h : ρ.evs xs = some [i64 m, i64 n]) : Qt P N c ⟨od, .call { callee := .builtin .min, args := xs.toArray, argTypes := ts }, ty, pos, after, gd⟩ (i64 (min m n)) ρ M E := Qt.of_run fun a w g _ => by
  simp only [execOp, resolve, List.map_toArray, g.evs h]
  have hr : (Builtin.min_ ts ty #[i64 m, i64 n]).run P w = .ok (i64 (min m n)) w := by
    simp [Builtin.min_, Builtin.min2, go_sem]
    rw [Int.min_def]
    split <;> split <;> first | rfl | (congr 1; omega) | omega | (simp; omega)
  simp [go_sem, invoke, builtin, hr]
instance (priority := 700) UpdB.inn (A F G : Ow) (b : Nat) (cs : List Value) (T : TypeId) [i : UpdB A b cs T G] : UpdB (Ow.star A F) b cs T (Ow.star G F) := ⟨Foc.inn i.out⟩
theorem VC.reB {p : Code} (b : Nat) {cs cs' : List Value} {T : TypeId} [j : UpdB E b cs T F] (h : cs = cs') (k : VC P N c Q p ρ M (Ow.star (Blk b cs' T) F)) : VC P N c Q p ρ M E := by
  subst h
  exact fun a w g st => k a w g (st.mono (fun _ x => x) (fun z hz => j.out z hz))
end
end Go.V
end

section
namespace Go.V
open Go.RowKit Go.S
section
variable {P : Program} {N : Nat} {c : Cx} {ops : Array Oper} {Q Q1 : Exit → Act → World → Prop} {rest : List Oper} {o : Oper} {ρ : Env} {M M' M1 M0 : Mo} {E E1 F A : Ow} {v u : Value} {X S T R : Type}
  {d : Nat} {od : Option Nat} {ty : TypeId} {pos : String} {after : Array Edge} {gd : Option (Nat × Bool)} {x y : Operand} {t t' e tb : TypeId} {f : FuncId} {args : List Value} {k k' : IntKind} {m n : Int}
end
end Go.V
end

section
namespace Go.S
open Go
end Go.S
end

section
namespace Go.V
open Go.RowKit Go.S
end Go.V
end

section
namespace Go.S
end Go.S
namespace Go.V
open Go.RowKit Go.S
section
variable {P : Program} {N : Nat} {c : Cx} {ops : Array Oper} {Q Q1 : Exit → Act → World → Prop} {rest : List Oper} {o : Oper} {ρ : Env} {M M' M1 M0 : Mo} {E E1 F A : Ow} {v u : Value} {X S T R : Type}
  {d : Nat} {od : Option Nat} {ty : TypeId} {pos : String} {after : Array Edge} {gd : Option (Nat × Bool)} {x y : Operand} {t t' e tb : TypeId} {f : FuncId} {args : List Value} {k k' : IntKind} {m n : Int}
end
end Go.V
end

section
set_option linter.unusedVariables false
namespace Go.V
open Go.RowKit Go.ChangeShapes Go.WideShapes
theorem Ct.law {P : Program} {f : FuncId} {args : List Value} {M : Mo} {v : Value} {φ : Unit → Prop} {M2 : Unit → Mo} {E2 : Unit → Ow} (h : Ct P f args M Ow.emp (fun _ => v) φ M2 E2) {w : World} (hM : M.on (wh w)) :
    Calls P f args.toArray w fun en w' => en = .returned v ∧ Gr w w' :=
  (h.calls w (wh w) Hp.nil hM trivial (Hp.nil_off _) (fun _ _ e => e) (fun b o q => by cases q)).mono fun en w' ⟨r, e1, z, e2, e3, e4⟩ => ⟨by rw [e1, e2], e4.os, e4.tape, e4.output, e4.size, fun b hb => e4.frame b hb (by simp [Hp.nil])⟩
section
variable {H : Type} {enc : TypeId × Value → H} {P : Program} {W W' : World}
theorem trodAll_stays (hl : laidOutB P = true) {sp' : Nat → Bool} : ∀ {ts : List TypeId} {vs : List Value} {ds : List (DataW H)} {ps : List MemPlace}, ts.all (fun t => P.readableRec t && decide (t < P.types.size)) = true →
    DataW.TrodAll enc P W 0 (fun _ => true) true ts vs ds ps → (∀ p ∈ ps, W.sameAt W' p) → (∀ p ∈ ps, sp' p.block = true) → DataW.TrodAll enc P W' 0 sp' true ts vs ds ps
  | [], [], [], _, _, h, _, _ => h
  | t :: ts, v :: vs, d :: ds, _, ha, ⟨p, q, h1, h2, rfl⟩, hs, hb => by
    simp only [List.all_cons, Bool.and_eq_true, decide_eq_true_eq] at ha
    exact ⟨p, q, WideElems.Trod_stays hl ha.1.1 ha.1.2 h1 (fun x hx => hs x (List.mem_append_left _ hx)) (fun x hx => hb x (List.mem_append_left _ hx)),
      trodAll_stays hl ha.2 h2 (fun x hx => hs x (List.mem_append_right _ hx)) (fun x hx => hb x (List.mem_append_right _ hx)), rfl⟩
  | [], _ :: _, _, _, _, h, _, _ => by simp [DataW.TrodAll] at h
  | [], [], _ :: _, _, _, h, _, _ => by simp [DataW.TrodAll] at h
  | _ :: _, [], _, _, _, h, _, _ => by simp [DataW.TrodAll] at h
  | _ :: _, _ :: _, [], _, _, h, _, _ => by simp [DataW.TrodAll] at h
theorem Gr.below (h : Gr W W') : Below W.heap.size W W' := ⟨h.os, h.tape, h.output, h.size, h.block⟩
theorem law_post {f : Func} {s : ChangeSpec} {args : Array Value} {ds gs : List (DataW H)} {before : List MemPlace} {tb : TypeId} {fresh handsOn : Bool}
    (hl : laidOutB P = true) (hp : f.params.toList.all (fun t => P.readableRec t && decide (t < P.types.size)) = true) (hr : f.resultTypes = #[tb]) (htb : P.underlying tb = some .bool) (hv : s.vars = [])
    (hW : DataW.Whole enc P f.params.toList s.vars false W args.toList ds gs before) (hg : Gr W W') (hs : s.fn H ds = ⟨[.lit (.bool true)], ds, []⟩) : s.post enc P f false fresh handsOn false W args (.bool true) W' := by
  have hW' := hW
  obtain ⟨p, q, hA, hV, rfl, hfz, hnd⟩ := hW
  rw [hv] at hV
  obtain ⟨rfl, rfl⟩ : gs = [] ∧ q = [] := by
    cases gs
    · exact ⟨rfl, hV⟩
    · simp [DataW.TrodVars] at hV
  have hb : ∀ x ∈ p, x.block < W.heap.size := fun x hx => by simpa using hW'.lt x (List.mem_append_left _ hx)
  refine ⟨ds, [], _, [], p, [], hW', ?_, ?_, ?_, hg.below.frame _, fun h => by cases h⟩
  · rw [List.append_nil, hs, hr]
    exact trodAll_mk1 (shut_bool htb true)
  · rw [List.append_nil, hs]
    exact trodAll_stays hl hp hA (fun x hx => hg.below.same (hb x hx)) (fun x hx => by simpa using hb x hx)
  · rw [List.append_nil, hs, hv]
    rfl
theorem add_block (a : Addr) (i : Nat) : (a.add i).block = a.block := by unfold Addr.add; split <;> rfl
theorem add_off (a : Addr) (i : Nat) : (a.add i).off = a.off + i := by unfold Addr.add; split <;> simp_all
end
end Go.V
end

section
set_option linter.unusedVariables false
namespace Go.V
open Go.RowKit Go.ChangeShapes Go.WideShapes
instance : Dat Bool := ⟨1, fun b => [.bool b], fun _ => rfl, fun _ _ h => by cases List.mem_singleton.1 h; rfl, fun _ => Mo.tt⟩
class Rg (α : Type) where
  rg : α → Prop
instance : Rg Int := ⟨Go.S.I64⟩
instance : Rg Bool := ⟨fun _ => True⟩
instance : Rg UInt8 := ⟨fun _ => True⟩
instance : Rg Str := ⟨fun _ => True⟩
instance {α : Type} [Rg α] : Rg (Sv α) := ⟨fun s => ∀ z ∈ s.l, Rg.rg z⟩
section
variable {P : Program}
def Opn (P : Program) (t : TypeId) (α : Type) [Dat α] [Rg α] : Prop := ∀ {H : Type} {enc : TypeId × Value → H} {W : World} {b0 : Nat} {sp : Nat → Bool} {hd : Bool} {fuel : Nat} {cs : List Value} {x : DataW H × List MemPlace},
  DataW.trod enc P W b0 sp hd fuel t cs = some x → ∃ z : α, cs = Dat.enc z ∧ (Dat.deep z).on (wh W) ∧ Rg.rg z
theorem Opn.i64 {t : TypeId} (ht : P.underlying t = some (.int .i64)) : Opn P t Int := fun h => by
  obtain ⟨n, rfl, _, hw⟩ := DataW.trod_int ht h
  refine ⟨n, rfl, trivial, ?_⟩
  have hb : -9223372036854775808 ≤ n ∧ n ≤ 9223372036854775807 := by simpa [Lit.wf, IntKind.min, IntKind.max, IntKind.signed, IntKind.bits] using hw
  exact hb
theorem Opn.bool {t : TypeId} (ht : P.underlying t = some .bool) : Opn P t Bool := fun h => by
  obtain ⟨n, rfl, _⟩ := DataW.trod_bool ht h
  exact ⟨n, rfl, trivial, trivial⟩
theorem Opn.u8 {t : TypeId} (ht : P.underlying t = some (.int .u8)) : Opn P t UInt8 := fun h => by
  obtain ⟨n, rfl, _, hw⟩ := DataW.trod_int ht h
  have hb : 0 ≤ n ∧ n ≤ 255 := by simpa [Lit.wf, IntKind.min, IntKind.max, IntKind.signed, IntKind.bits] using hw
  refine ⟨UInt8.ofNat n.toNat, ?_, trivial, trivial⟩
  show [Value.int .u8 n] = [.int .u8 ((UInt8.ofNat n.toNat).toNat : Int)]
  rw [← u8_z hb rfl]
theorem Opn.str {t : TypeId} (ht : P.underlying t = some .string) : Opn P t Str := fun h => by
  obtain ⟨s, rfl, _, _⟩ := DataW.trod_string ht h
  exact ⟨s.data.toList, rfl, trivial, trivial⟩
theorem pick_list {α : Type} {Q : Nat → α → Prop} : ∀ (n : Nat), (∀ i, i < n → ∃ z, Q i z) → ∃ l : List α, l.length = n ∧ ∀ i z, l[i]? = some z → Q i z
  | 0, _ => ⟨[], rfl, fun i z h => by simp at h⟩
  | n + 1, h => by
    obtain ⟨l, hl, hq⟩ := pick_list n fun i hi => h i (by omega)
    obtain ⟨z, hz⟩ := h n (by omega)
    refine ⟨l ++ [z], by simp [hl], fun i y hy => ?_⟩
    rw [List.getElem?_append] at hy
    split at hy
    · exact hq i y hy
    · have : i = n := by
        have := (List.getElem?_eq_some_iff.1 hy).1
        simp at this; omega
      subst this
      rw [hl] at hy
      simp at hy
      subst hy
      exact hz
theorem cells_at {W : World} {b0 n : Nat} {a : Addr} {cs : List Value} (h : W.cells? b0 a n = some cs) (hn : 0 < n) : a.spot = none ∧ (wh W).at a.block a.off cs := by
  unfold World.cells? at h
  split at h
  · have hl := mapM_some_length h
    rw [List.length_range] at hl
    have hg : ∀ i, i < n → W.cell? (a.add i) = cs[i]? := fun i hi => mapM_some_get h i i (by simp [hi])
    have key : ∀ (c : Addr) (v : Value), W.cell? c = some v → c.spot = none ∧ (wh W).cell c.block c.off = some v := fun c v hc => by
      unfold World.cell? at hc
      unfold Hp.cell wh
      split at hc
      · next hb =>
        split at hc
        · cases hc
        · next hsp => exact ⟨by simpa using hsp, by rw [hb]; simpa using hc⟩
      · cases hc
    refine ⟨?_, fun j v hj => ?_⟩
    · obtain ⟨v, hv⟩ : ∃ v, cs[0]? = some v := ⟨_, List.getElem?_eq_getElem (by omega)⟩
      have := (key _ v ((hg 0 hn).trans hv)).1
      unfold Addr.add at this
      split at this <;> simp_all
    · have hjn : j < n := by have := (List.getElem?_eq_some_iff.1 hj).1; omega
      have := (key _ v ((hg j hjn).trans hj)).2
      rwa [add_block, add_off] at this
  · cases h
theorem Opn.sv {t e : TypeId} {α : Type} [Dat α] [Rg α] (ht : P.underlying t = some (.slice e)) (hc : P.cellsOf e = Dat.sz α) (hpos : 0 < Dat.sz α) (he : Opn P e α) : Opn P t (Sv α) := fun {H enc W b0 sp hd fuel cs x} h => by
  rcases DataW.trod_slice ht h with ⟨rfl, _⟩ | ⟨a, len, cap, elems, rest, n, _, rfl, _, hb, hl, hm, hlen, hel, _⟩
  · exact ⟨⟨none, 0, []⟩, rfl, ⟨Nat.le_refl _, by simp [maxLen], fun h => absurd rfl h, fun _ _ h => by simp at h, fun _ h => by cases h⟩, fun _ h => (by cases h)⟩
  · have each : ∀ i, i < len → ∃ z : α, W.cells? b0 (a.add (i * Dat.sz α)) (Dat.sz α) = some (Dat.enc z) ∧ (Dat.deep z).on (wh W) ∧ Rg.rg z := fun i hi => by
      have h1 := hel i hi
      rw [List.getElem?_eq_getElem (by omega), hc] at h1
      cases h2 : W.cells? b0 (a.add (i * Dat.sz α)) (Dat.sz α) with
      | none => rw [h2] at h1; cases h1
      | some cs' =>
        rw [h2] at h1
        obtain ⟨z, rfl, hz⟩ := he h1
        exact ⟨z, rfl, hz⟩
    obtain ⟨l, h1, h2⟩ := pick_list len each
    refine ⟨⟨some a, cap, l⟩, by rw [← h1]; rfl, ⟨by simpa [h1] using hl, hm, fun hne => ?_, fun i z hz => ?_, fun z hz => ?_⟩, fun z hz => ?_⟩
    · simp only at hne
      obtain ⟨z, hz⟩ : ∃ z, l[0]? = some z := ⟨_, List.getElem?_eq_getElem (List.length_pos_iff.2 hne)⟩
      have := (cells_at (h2 0 z hz).1 hpos).1
      simp only [Nat.zero_mul] at this
      cases a
      simp [Addr.add] at this
      simp_all [Sv.b, Sv.o]
    · have := (cells_at (h2 i z hz).1 hpos).2
      rw [add_block, add_off] at this
      exact this
    · obtain ⟨i, hi, rfl⟩ := List.mem_iff_getElem.1 hz
      exact (h2 i l[i] (List.getElem?_eq_getElem hi)).2.1
    · obtain ⟨i, hi, rfl⟩ := List.mem_iff_getElem.1 hz
      exact (h2 i l[i] (List.getElem?_eq_getElem hi)).2.2
theorem trod_fields {H : Type} {enc : TypeId × Value → H} {W : World} {b0 : Nat} {sp : Nat → Bool} {hd : Bool} {fuel : Nat} {cs : List Value} {x : DataW H × List MemPlace} {t : TypeId} {fs : Array Field} (ht : P.underlying t = some (.struct fs)) (h : DataW.trod enc P W b0 sp hd fuel t cs = some x) :
    cs.length = P.cellsOf t ∧ ∀ (i : Nat) (f : Field), fs[i]? = some f → ∃ (n : Nat) (y : DataW H × List MemPlace), DataW.trod enc P W b0 sp hd n f.type ((cs.drop f.offset).take (P.cellsOf f.type)) = some y := by
  obtain ⟨xs, n, _, _, hl, hx, hf⟩ := DataW.trod_struct ht h
  refine ⟨hl, fun i f hi => ⟨n, ?_⟩⟩
  have h1 := hf i f hi
  have hi' := (Array.getElem?_eq_some_iff.1 hi).1
  rw [List.getElem?_eq_getElem (by omega)] at h1
  exact ⟨_, h1⟩
theorem Opn.fld {H : Type} {enc : TypeId × Value → H} {W : World} {b0 : Nat} {sp : Nat → Bool} {hd : Bool} {cs cs' : List Value} {t : TypeId} {α : Type} [Dat α] [Rg α] (ho : Opn P t α) {off k : Nat} (hk : P.cellsOf t = k) (h : ∃ (n : Nat) (y : DataW H × List MemPlace), DataW.trod enc P W b0 sp hd n t ((cs.drop off).take (P.cellsOf t)) = some y) (hc : (cs.drop off).take k = cs') :
    ∃ z : α, cs' = Dat.enc z ∧ (Dat.deep z).on (wh W) ∧ Rg.rg z := by
  subst hk
  subst hc
  obtain ⟨n, y, h⟩ := h
  exact ho h
theorem Opn.arg {t : TypeId} {α : Type} [Dat α] [Rg α] (ho : Opn P t α) {H : Type} {enc : TypeId × Value → H} {W : World} {b0 : Nat} {sp : Nat → Bool} {hd : Bool} {v : Value} {d : DataW H} {p : List MemPlace} (h : DataW.Trod enc P W b0 sp hd t v d p) : ∃ z : α, v.cells.toList = Dat.enc z ∧ (Dat.deep z).on (wh W) ∧ Rg.rg z := by
  obtain ⟨f, h⟩ := h
  exact ho h
theorem okw_slice {W : World} {r : Reach} {b0 : Nat} {t e : TypeId} {v : Value} {α : Type} [Dat α] {z : Sv α} (ht : P.underlying t = some (.slice e)) (h : Value.okWide P W r b0 t v) (hc : v.cells.toList = Dat.enc z) : v = z.val := by
  obtain ⟨a0, len, cap, rfl⟩ := okWide_slice ht h
  have : [Value.slice a0 len cap] = [z.val] := hc
  exact List.head_eq_of_cons_eq this
end
end Go.V
end

section
set_option linter.unusedVariables false
namespace Go.V
open Go.RowKit
end Go.V
end

section
namespace Go.V
open Go.RowKit
section
variable {P : Program} {N : Nat} {c : Cx} {ops : Array Oper} {Q : Exit → Act → World → Prop} {ρ : Env} {M : Mo} {E : Ow} {D : List (Nat × Value)} {k : Nat}
end
end Go.V
end

section
set_option linter.unusedVariables false
set_option linter.unusedSimpArgs false
set_option linter.unusedSectionVars false
def Go.S.joinS (l : List (List UInt8)) (sep : List UInt8) : List UInt8 := Go.Lib.join l sep
namespace Go.V
open Go.RowKit Go.S
section
variable {P : Program} {N : Nat} {c : Cx} {ops : Array Oper} {Q Q1 : Exit → Act → World → Prop} {rest : List Oper} {o : Oper} {ρ : Env} {M M' M1 M0 : Mo} {E E1 F A : Ow} {v u : Value} {X S T R : Type}
  {d : Nat} {od : Option Nat} {ty : TypeId} {pos : String} {after : Array Edge} {gd : Option (Nat × Bool)} {x y : Operand} {t t' e tb : TypeId} {f : FuncId} {args : List Value} {k k' : IntKind} {m n : Int} {α : Type} [Dat α]
end
end Go.V
end

section
set_option linter.unusedVariables false
set_option linter.unusedSimpArgs false
set_option linter.unusedSectionVars false
namespace Go.V
open Go.RowKit Go.S
section
variable {P : Program} {N : Nat} {c : Cx} {ops : Array Oper} {Q Q1 : Exit → Act → World → Prop} {rest : List Oper} {o : Oper} {ρ : Env} {M M' M1 M0 : Mo} {E E1 F A : Ow} {v u : Value} {X S T R : Type}
  {d : Nat} {od : Option Nat} {ty : TypeId} {pos : String} {after : Array Edge} {gd : Option (Nat × Bool)} {x y : Operand} {t t' e tb : TypeId} {f : FuncId} {args : List Value} {k k' : IntKind} {m n : Int} {α : Type} [Dat α]
theorem VL.open {s : Sv α} (hE : Foc E (s.own e) F) (hl : s.c ≠ 0) (kk : ∀ (b : Nat) (cs : List Value), s.a = some ⟨b, 0, none⟩ → cs.length = s.c * Dat.sz α → cs.take (s.l.length * Dat.sz α) = s.l.flatMap Dat.enc → s.l.length ≤ s.c → s.c ≤ maxLen → VL P N c ops Q rest ρ M (Ow.star (Blk b cs e) F)) : VL P N c ops Q rest ρ M E := fun a w g s0 => by
  obtain ⟨⟨hp, ee, m, eE, dd, l, k, r1, r2, r3⟩, f1, f2, f3, f4, f5⟩ := id s0
  obtain ⟨p, q, d1, j1, ⟨q1, q2, q3⟩, hq⟩ := hE ee eE
  rcases q3 with ⟨w1, w2⟩ | ⟨b, cur, w1, w2, w3, w4⟩
  · exact absurd w2 hl
  · exact kk b cur.toList w1 (by rw [Array.length_toList, w3]) w4 q1 q2 a w g ⟨⟨hp, ee, m, ⟨p, q, d1, j1, by unfold Blk; rw [Array.toArray_toList]; exact w2, hq⟩, dd, l, k, r1, r2, r3⟩, f1, f2, f3, f4, f5⟩
end
end Go.V
end

section
namespace Go.S
open Go
def insS (x : List UInt8) : List (List UInt8) → List (List UInt8)
  | [] => [x]
  | y :: r => if Op.bytesLess y x = true then y :: insS x r else x :: y :: r
def sortS : List (List UInt8) → List (List UInt8)
  | [] => []
  | x :: r => insS x (sortS r)
theorem insS_perm (x : List UInt8) : ∀ l, (insS x l).Perm (x :: l)
  | [] => List.Perm.refl _
  | y :: r => by
    unfold insS
    split
    · exact ((insS_perm x r).cons y).trans (List.Perm.swap x y r)
    · exact List.Perm.refl _
theorem sortS_perm : ∀ l, (sortS l).Perm l
  | [] => List.Perm.refl _
  | x :: r => (insS_perm x _).trans ((sortS_perm r).cons x)
theorem insS_sorted (x : List UInt8) : ∀ l : List (List UInt8), l.Pairwise (· ≤ ·) → (insS x l).Pairwise (· ≤ ·)
  | [], _ => by simp [insS]
  | y :: r, h => by
    unfold insS
    have h1 := List.pairwise_cons.1 h
    split
    · next hb =>
      rw [Go.Proofs.bytesLess_eq, decide_eq_true_eq] at hb
      refine List.pairwise_cons.2 ⟨fun z hz => ?_, insS_sorted x r h1.2⟩
      rcases List.mem_cons.1 ((insS_perm x r).mem_iff.1 hz) with q | q
      · rw [q]; exact List.le_of_lt hb
      · exact h1.1 z q
    · next hb =>
      rw [Go.Proofs.bytesLess_eq, decide_eq_true_eq] at hb
      have hxy : x ≤ y := List.not_lt.1 hb
      refine List.pairwise_cons.2 ⟨fun z hz => ?_, h⟩
      rcases List.mem_cons.1 hz with q | q
      · rw [q]; exact hxy
      · exact List.le_trans hxy (h1.1 z q)
theorem sortS_sorted : ∀ l : List (List UInt8), (sortS l).Pairwise (· ≤ ·)
  | [] => List.Pairwise.nil
  | x :: r => insS_sorted x _ (sortS_sorted r)
theorem sortS_eq (l : List (List UInt8)) : sortS l = l.mergeSort (fun x y => decide (x ≤ y)) := by
  have tr : ∀ a b c : List UInt8, decide (a ≤ b) = true → decide (b ≤ c) = true → decide (a ≤ c) = true := fun a b c h1 h2 => by simp only [decide_eq_true_eq] at *; exact List.le_trans h1 h2
  have to : ∀ a b : List UInt8, (decide (a ≤ b) || decide (b ≤ a)) = true := fun a b => by simp only [Bool.or_eq_true, decide_eq_true_eq]; exact List.le_total a b
  refine List.Perm.eq_of_pairwise (le := fun a b => decide (a ≤ b) = true) (fun a b _ _ h1 h2 => ?_) ((sortS_sorted l).imp fun h => decide_eq_true h) (List.pairwise_mergeSort tr to l) ((sortS_perm l).trans (List.mergeSort_perm l _).symm)
  simp only [decide_eq_true_eq] at h1 h2
  exact List.le_antisymm h1 h2
def cstep (acc : List (List UInt8)) (z : List UInt8) : List (List UInt8) := if acc.getLast? = some z then acc else acc ++ [z]
def compactS (l : List (List UInt8)) : List (List UInt8) := l.foldl cstep []
theorem compact_upto (l : List (List UInt8)) : ∀ m, m ≤ l.length → Lib.compactUpTo l.toArray m = (l.take m).foldl cstep [] ∧ (Lib.compactUpTo l.toArray m).getLast? = if m = 0 then none else l[m - 1]?
  | 0, _ => by simp [Lib.compactUpTo]
  | m + 1, h => by
    obtain ⟨h1, h2⟩ := compact_upto l m (by omega)
    have hm : m < l.length := by omega
    have hg : l.toArray[m]! = l[m] := by simp [hm]
    rw [Lib.compactUpTo_succ, List.take_add_one, List.getElem?_eq_getElem hm, List.foldl_append, ← h1]
    simp only [Option.toList, List.foldl_cons, List.foldl_nil, cstep, h2, hg]
    by_cases h0 : m = 0
    · subst h0
      simp [Lib.keeps]
    · have hp : m - 1 < l.length := by omega
      have hg2 : l.toArray[m - 1]! = l[m - 1] := by simp [hp]
      simp only [if_neg h0, List.getElem?_eq_getElem hp, Option.some.injEq]
      by_cases he : l[m - 1] = l[m]
      · have hk : Lib.keeps l.toArray m = false := Lib.keeps_neg (by omega) (by rw [hg, hg2, he])
        simp only [hk, if_pos he, Bool.false_eq_true, if_false, List.append_nil, h2, if_neg h0, List.getElem?_eq_getElem hp]
        simp [he, hm]
      · have hk : Lib.keeps l.toArray m = true := Lib.keeps_pos (by rw [hg, hg2]; exact fun e => he e.symm)
        simp only [hk, if_neg he, if_true]
        simp [hm]
theorem compactS_eq (l : List (List UInt8)) : compactS l = Lib.compact l := by
  have := (compact_upto l l.length (Nat.le_refl _)).1
  rw [List.take_length] at this
  exact this.symm
theorem compact_len (l : List (List UInt8)) : (compactS l).length ≤ l.length := by
  unfold compactS
  suffices h : ∀ (acc : List (List UInt8)) (l : List (List UInt8)), (l.foldl cstep acc).length ≤ acc.length + l.length by simpa using h [] l
  intro acc l
  induction l generalizing acc with
  | nil => simp
  | cons x r ih =>
    refine Nat.le_trans (ih (cstep acc x)) ?_
    have : (cstep acc x).length ≤ acc.length + 1 := by unfold cstep; split <;> simp
    simp only [List.length_cons]; omega
theorem cstep_sorted (acc : List (List UInt8)) (z : List UInt8) (h : acc.Pairwise (· < ·)) (hz : ∀ y ∈ acc, y ≤ z) : (cstep acc z).Pairwise (· < ·) ∧ ∀ y, y ∈ cstep acc z ↔ y ∈ acc ∨ y = z := by
  unfold cstep
  split
  · next he =>
    refine ⟨h, fun y => ⟨.inl, fun q => q.elim id fun q => ?_⟩⟩
    rw [q]; exact List.mem_of_getLast? he
  · next hne =>
    refine ⟨List.pairwise_append.2 ⟨h, List.pairwise_singleton _ _, fun a ha c hc => ?_⟩, fun y => by simp⟩
    rw [List.mem_singleton.1 hc]
    have hle := hz a ha
    by_cases hlt : a < z
    · exact hlt
    · have hza : z = a := List.le_antisymm (List.not_lt.1 hlt) hle
      subst hza
      -- the last one is at least as great as z, and not z: no
      exfalso
      have hnil : acc ≠ [] := fun q => by rw [q] at ha; cases ha
      have hl : acc.getLast? = some (acc.getLast hnil) := List.getLast?_eq_some_getLast hnil
      have hm := List.getLast_mem hnil
      have hle2 := hz _ hm
      rw [hl] at hne
      have hcat : acc = acc.dropLast ++ [acc.getLast hnil] := (List.dropLast_concat_getLast hnil).symm
      rw [hcat] at ha h
      rcases List.mem_append.1 ha with q | q
      · have hq := (List.pairwise_append.1 h).2.2 z q _ (List.mem_singleton_self _)
        exact absurd hle2 (List.not_le.2 hq)
      · exact hne (congrArg some (List.mem_singleton.1 q).symm)
theorem compact_sorted : ∀ (l acc : List (List UInt8)), acc.Pairwise (· < ·) → (∀ y ∈ acc, ∀ z ∈ l, y ≤ z) → l.Pairwise (· ≤ ·) → (l.foldl cstep acc).Pairwise (· < ·) ∧ ∀ y, y ∈ l.foldl cstep acc ↔ y ∈ acc ∨ y ∈ l
  | [], acc, h, _, _ => ⟨h, fun y => by simp⟩
  | z :: r, acc, h, h1, h2 => by
    have hs := cstep_sorted acc z h (fun y hy => h1 y hy z (List.mem_cons_self ..))
    have hp := List.pairwise_cons.1 h2
    have ih := compact_sorted r (cstep acc z) hs.1 (fun y hy w hw => by
      rcases (hs.2 y).1 hy with q | q
      · exact h1 y q w (List.mem_cons_of_mem _ hw)
      · rw [q]; exact hp.1 w hw) hp.2
    refine ⟨ih.1, fun y => ?_⟩
    rw [List.foldl_cons, ih.2 y, hs.2 y, List.mem_cons]
    constructor
    · rintro ((q | q) | q)
      · exact .inl q
      · exact .inr (.inl q)
      · exact .inr (.inr q)
    · rintro (q | q | q)
      · exact .inl (.inl q)
      · exact .inl (.inr q)
      · exact .inr q
def keysS (l : List (List UInt8)) : List (List UInt8) := compactS (sortS l)
theorem keysS_lt (l : List (List UInt8)) : (keysS l).Pairwise (· < ·) := (compact_sorted (sortS l) [] List.Pairwise.nil (fun y h => by cases h) (sortS_sorted l)).1
theorem keysS_mem (l : List (List UInt8)) (y : List UInt8) : y ∈ keysS l ↔ y ∈ l := by
  have := (compact_sorted (sortS l) [] List.Pairwise.nil (fun y h => by cases h) (sortS_sorted l)).2 y
  rw [show keysS l = (sortS l).foldl cstep [] from rfl, this]
  simp [(sortS_perm l).mem_iff]
theorem keysS_len (l : List (List UInt8)) : (keysS l).length ≤ l.length := by
  have h1 := compact_len (sortS l)
  rw [(sortS_perm l).length_eq] at h1
  exact h1
theorem keysS_of {l ss : List (List UInt8)} (hn : ss.Nodup) (hm : ∀ y, y ∈ ss ↔ y ∈ l) : ss.mergeSort (fun x y => decide (x ≤ y)) = keysS l := by
  rw [← sortS_eq]
  have hk : (keysS l).Nodup := (keysS_lt l).imp (fun {a b} (h : a < b) (e : a = b) => List.lt_irrefl b (e ▸ h))
  refine List.Perm.eq_of_pairwise (le := fun a b => decide (a ≤ b) = true) (fun a b _ _ h1 h2 => ?_) ((sortS_sorted ss).imp fun h => decide_eq_true h) ((keysS_lt l).imp fun h => decide_eq_true (List.le_of_lt h)) ((sortS_perm ss).trans ((List.perm_ext_iff_of_nodup hn hk).2 fun y => (hm y).trans (keysS_mem l y).symm))
  simp only [decide_eq_true_eq] at h1 h2
  exact List.le_antisymm h1 h2
end Go.S
end

section
set_option linter.unusedVariables false
set_option linter.unusedSimpArgs false
set_option linter.unusedSectionVars false
namespace Go.V
open Go.RowKit Go.S Go.Sort
theorem putCells_toList {enc : Str → Value} (d : List Str) (cur : Array Value) (h : d.length ≤ cur.size) : (putCells enc 0 d.toArray cur).toList = d.map enc ++ cur.toList.drop d.length := by
  apply List.ext_getElem?
  intro j
  unfold putCells
  rw [Array.getElem?_toList, Array.getElem?_mapIdx]
  by_cases hj : j < d.length
  · have hc : j < cur.size := by omega
    rw [List.getElem?_append_left (by simpa using hj)]
    simp [hc, hj]
  · rw [List.getElem?_append_right (by simp; omega)]
    simp only [List.length_map, List.getElem?_drop, Array.getElem?_toList, List.size_toArray]
    rw [show d.length + (j - d.length) = j by omega]
    cases hc : cur[j]? with
    | none => rfl
    | some x => simp; omega
theorem Ct.compact {P : Program} {f : FuncId} (he : ∀ (xs : Array Value) (w : World), (callFunc f xs).run P w = .ok (.enter f xs) w)
    (hc : ∀ (blk off cap : Nat) (ss : List (List UInt8)) (w : World), Holds Go.Proofs.encStr w blk off ss.toArray → ss.length ≤ 9223372036854775807 → ss.length ≤ cap →
      Calls P f #[.slice (some ⟨blk, off, none⟩) ss.length cap] w fun e w' => e = .returned (.slice (some ⟨blk, off, none⟩) (Lib.compact ss).length cap) ∧ ∃ q, w' = putRow Go.Proofs.encStr (Sort.ahead w q) blk off (Lib.compact ss ++ List.replicate (ss.length - (Lib.compact ss).length) []).toArray)
    (hn : ∀ (p : Option Addr) (cap : Nat) (w : World), Calls P f #[.slice p 0 cap] w fun e w' => e = .returned (.slice p 0 cap) ∧ w' = w)
    (s : Sv Str) (T : TypeId) (hb : s.l.length ≤ 4294967296) :
    Ct P f [s.val] Mo.tt (s.own T) (X := Sv Str) (fun q => q.val) (fun q => q.l = compactS s.l) (fun _ => Mo.tt) (fun q => q.own T) :=
  ⟨he, fun w hp z m hA d l k => by
    have hA0 := hA
    obtain ⟨hlc, hcm, ⟨hl0, hc0⟩ | ⟨b, cur, hsa, hg, hcs, ht⟩⟩ := hA
    · have e1 : s.val = .slice s.a 0 s.c := by unfold Sv.val; rw [hl0]; rfl
      rw [e1]
      refine (hn s.a s.c w).mono fun e w' ⟨h1, h2⟩ => ⟨_, h1, s, e1.symm, by show s.l = compactS s.l; rw [hl0]; rfl, ?_⟩
      subst h2
      exact ⟨⟨hp, z, trivial, hA0, d, l, k, Hp.le.refl hp, fun b hb => .inl hb, fun b hb => .inl hb⟩, fun b _ _ => rfl, rfl, rfl, rfl, Nat.le_refl _⟩
    · have hw : w.heap[b]? = some (.cells cur T (0, 0)) := k _ _ hg
      have hsz : Dat.sz Str = 1 := rfl
      rw [hsz, Nat.mul_one] at hcs ht
      have hfl : ∀ l : List Str, l.flatMap Dat.enc = l.map Go.Proofs.encStr := fun l => by
        rw [List.map_eq_flatMap]; rfl
      rw [hfl] at ht
      have hH : Holds Go.Proofs.encStr w b 0 s.l.toArray := fun j hj => by
        have hj' : j < s.l.length := by simpa using hj
        have h1 : cur[j]? = some (Go.Proofs.encStr s.l[j]) := by
          have := congrArg (fun l => l[j]?) ht
          simp only [List.getElem?_take, if_pos hj', List.getElem?_map, List.getElem?_eq_getElem hj', Option.map_some] at this
          rw [← Array.getElem?_toList]; exact this
        refine ⟨?_, by simp [World.frozen?, hw]⟩
        simp only [World.cell?, hw, Nat.zero_add, h1]
        simp [hj']
      have e1 : s.val = .slice (some ⟨b, 0, none⟩) s.l.length s.c := by unfold Sv.val; rw [hsa]
      rw [e1]
      have hle := compact_len s.l
      refine (hc b 0 s.c s.l w hH (by omega) hlc).mono fun e w' ⟨h1, n, h2⟩ => ⟨_, h1, ⟨s.a, s.c, compactS s.l⟩, by unfold Sv.val; rw [compactS_eq, hsa], rfl, ?_⟩
      rw [← compactS_eq] at h2
      have hlen : (compactS s.l ++ List.replicate (s.l.length - (compactS s.l).length) []).length = s.l.length := by simp; omega
      generalize hD : compactS s.l ++ List.replicate (s.l.length - (compactS s.l).length) [] = D at h2 hlen
      have hw1 : (putRow Go.Proofs.encStr (Sort.ahead w n) b 0 D.toArray).heap[b]? = some (.cells (putCells Go.Proofs.encStr 0 D.toArray cur) T (0, 0)) := by
        unfold putRow mapBlock
        simp only [Array.getElem?_modify, if_true]
        show (w.heap[b]?).map _ = _
        rw [hw]; rfl
      have ho1 : ∀ i, i ≠ b → (putRow Go.Proofs.encStr (Sort.ahead w n) b 0 D.toArray).heap[i]? = w.heap[i]? := fun i hi => by
        unfold putRow mapBlock
        simp only [Array.getElem?_modify, if_neg (Ne.symm hi)]
        rfl
      have hs1 : (putRow Go.Proofs.encStr (Sort.ahead w n) b 0 D.toArray).heap.size = w.heap.size := by rw [size_putRow]; rfl
      rw [h2]
      refine St.turn (A := Sv.own _ T) hg d trivial l ⟨Nat.le_trans hle hlc, hcm, .inr ⟨b, _, hsa, Hp.one_self _ _, ?_, ?_⟩⟩ hs1 hw1 ho1 rfl rfl rfl
      · rw [hsz, Nat.mul_one]; simp [putCells, hcs]
      · rw [hsz, Nat.mul_one, putCells_toList D cur (by rw [hlen, hcs]; exact hlc), hfl, ← hD, List.map_append, List.append_assoc]
        rw [List.take_append_of_le_length (by simp), List.take_of_length_le (by simp)]⟩
end Go.V
end

section
set_option linter.unusedVariables false
set_option linter.unusedSimpArgs false
set_option linter.unusedSectionVars false
namespace Go.V
open Go.RowKit Go.S Go.Sort Go.Maps
open Go.WideElems (Fit rg)
def MpK (P : Program) (k e : TypeId) (b : Nat) (l : List Str) : Ow := fun z => ∃ es clock, z b = some (.map es clock) ∧ Fit (H := Unit) P k (plainElem P e) es clock ∧ es.size ≤ l.length ∧ ∀ x : Str, has (H := Unit) (.map ((es.toList.map (rg P k (plainElem P e))).foldr DataW.insert [])) (.string x) = true ↔ x ∈ l
theorem MpK.owns {P : Program} {k e : TypeId} {b : Nat} {l : List Str} {z : Hp} {w : World} (h : MpK P k e b l z) (lz : z.le (wh w)) : ∃ D : DataW Unit, w.ownsMap P k (plainElem P e) b l.length D ∧ ∀ x : Str, has D (.string x) = true ↔ x ∈ l := by
  obtain ⟨es, clock, h1, h2, h3, h4⟩ := h
  exact ⟨_, ⟨es, clock, lz _ _ h1, h2, h3, rfl⟩, h4⟩
section
variable {P : Program} {N : Nat} {c : Cx} {ops : Array Oper} {Q Q1 : Exit → Act → World → Prop} {rest : List Oper} {o : Oper} {ρ : Env} {M M' M1 M0 : Mo} {E E1 F A : Ow} {v u : Value} {X S T R : Type}
  {d : Nat} {od : Option Nat} {ty : TypeId} {pos : String} {after : Array Edge} {gd : Option (Nat × Bool)} {x y m' : Operand} {t t' e k : TypeId} {f : FuncId}
theorem VL.mkmap (hd : d < N) (kk : ∀ b : Nat, VL P N c ops Q rest ((d, .map (some b)) :: ρ) M (Ow.star (MpK P k e b []) E)) : VL P N c ops Q (⟨some d, .makeMap t none, ty, pos, after, none⟩ :: rest) ρ M E :=
  VL.newO (S := Nat) (val := fun b => .map (some b)) (φ := fun _ => True) (A := fun b => MpK P k e b []) (fun a w g => by
    refine ⟨w.heap.size, w.alloc (.map #[] 0), .map #[] 0, ?_, trivial, Gr.alloc w _, heap_alloc_new w _, ?_⟩
    · simp only [execOp, Option.map_none, Sem.run_bind, run_makeMap, Result.andThen_ok, Sem.run_pure]
    · obtain ⟨es, clock, h1, h2, h3, h4⟩ := World.ownsMap_made (H := Unit) w P k (plainElem P e)
      have h5 := heap_alloc_new w (.map #[] 0)
      rw [h5] at h1
      cases h1
      exact ⟨#[], 0, Hp.one_self _ _, h2, Nat.le_refl _, fun x => by simp [has]⟩) hd fun b _ => kk b
theorem St.turnG {w w' : World} {h z : Hp} {b : Nat} {o o' : Obj} (hz : z b = some o) (hoff : h.off z) (hm : M.on h) (l : h.le (wh w)) (hA : A (Hp.one b o')) (hs : w.heap.size ≤ w'.heap.size) (hb : w'.heap[b]? = some o') (ho : ∀ i, i < w.heap.size → i ≠ b → w'.heap[i]? = w.heap[i]?) (e1 : w'.os = w.os) (e2 : w'.tape = w.tape) (e3 : w'.output = w.output) :
    St ⟨w, h, fun i => z i ≠ none⟩ M A w' := by
  have hbn : h b = none := (hoff b).resolve_right (by rw [hz]; simp)
  refine ⟨⟨h, Hp.one b o', hm, hA, fun i => ?_, fun i p hp => ?_, fun i p hp => ?_, Hp.le.refl h, fun i hi => .inl hi, fun i hi => .inl ?_⟩, fun i hi hd => ho i hi ?_, e1, e2, e3, hs⟩
  · by_cases hib : i = b
    · subst hib; exact .inl hbn
    · right; unfold Hp.one; rw [if_neg hib]
  · have hib : i ≠ b := fun q => by rw [q, hbn] at hp; cases hp
    have hlt := (Array.getElem?_eq_some_iff.1 (l i p hp)).1
    show w'.heap[i]? = _
    rw [ho i hlt hib]
    exact l i p hp
  · unfold Hp.one at hp
    split at hp
    · next q => subst q; cases hp; exact hb
    · cases hp
  · have : i = b := by
      unfold Hp.one at hi
      split at hi
      · assumption
      · exact absurd rfl hi
    subst this; show z i ≠ none; rw [hz]; simp
  · intro q; subst q; exact hd (by show z i ≠ none; rw [hz]; simp)
theorem VL.mapset {b : Nat} {l : List Str} {s : Str} (hk : P.underlying k = some .string) (he : P.underlying e = some .bool) (ht : P.underlying t = some (.map k e)) (hE : Foc E (MpK P k e b l) F)
    (e0 : ρ.ev m' = some (.map (some b))) (e1 : ρ.ev x = some (str s)) (e2 : ρ.ev y = some (.bool true)) (hl : l.length ≤ 4294967296 ∧ s.length ≤ 4294967296)
    (kk : VL P N c ops Q rest ρ M (Ow.star (MpK P k e b (s :: l)) F)) : VL P N c ops Q (⟨none, .mapUpdate t m' x y, ty, pos, after, none⟩ :: rest) ρ M E := by
  refine VL.bigS (A2 := MpK P k e b (s :: l)) hE (fun a w h z g hoff hm hA lh lz => ?_) kk
  obtain ⟨D, hown, hD⟩ := hA.owns lz
  obtain ⟨es0, clock0, hz0, _⟩ := hA
  obtain ⟨w', hrun, hown', hg⟩ := hown.update (string_keyed hk) ht (by unfold maxLen; omega) (Go.WideMaps.keyOf_string_mk (s := ⟨⟨s⟩⟩) hk (by show s.length ≤ maxLen; unfold maxLen; omega)) (plainElem_bool he true)
  obtain ⟨es, clock, h1, h2, h3, h4⟩ := hown'
  have hm2 : IsMap D := by obtain ⟨_, _, _, _, _, q⟩ := hown; exact ⟨_, q⟩
  refine ⟨w', ?_, St.turnG (A := MpK P k e b (s :: l)) hz0 hoff trivial lh ⟨es, clock, Hp.one_self _ _, h2, by simpa using h3, fun y => ?_⟩ hg.size h1 (fun i hi hib => hg.block i hi (fun q => hib (Option.some.inj q))) hg.os hg.tape hg.output⟩
  · simp only [execOp, g.ev e0, g.ev e1, g.ev e2, Sem.run_bind, hrun, Result.andThen_ok, Sem.run_pure]
  · rw [← h4]
    by_cases hy : y = s
    · subst hy
      exact ⟨fun _ => List.mem_cons_self .., fun _ => has_put_same (k := .string y) hm2 (show Go.WideAt.IsKeyLit (.string y) from True.intro) _⟩
    · rw [has_put_other (by simpa using hy), hD y]
      simp [hy]
theorem Ct.mapKeys {it T b : Nat} (he : ∀ (xs : Array Value) (w : World), (callFunc f xs).run P w = .ok (.enter f xs) w)
    (hc : ∀ (mb : Option Nat) (W : World), Calls P f #[.map mb] W fun e w' => e = .returned (.func (.func it) #[] #[.pointer (some ⟨W.heap.size, 0, none⟩)]) ∧ w' = W.alloc (.cells #[.map mb] T)) :
    Ct P f [.map (some b)] Mo.tt Ow.emp (X := Nat) (fun B => .func (.func it) #[] #[ptr B 0]) (fun _ => True) (fun _ => Mo.tt) (fun B => Blk B [.map (some b)] T) :=
  ⟨he, fun w hp z m _ d l k => (hc (some b) w).mono fun e w' ⟨h1, h2⟩ => ⟨_, h1, w.heap.size, rfl, trivial, by
    subst h2
    exact St.newO (A := Blk w.heap.size [.map (some b)] T) (Hp.one_self _ _) trivial l (Gr.alloc w _) (heap_alloc_new w _)⟩⟩
theorem Ct.sortedKeys {it T b B : Nat} {l : List Str} (he : ∀ (xs : Array Value) (w : World), (callFunc f xs).run P w = .ok (.enter f xs) w) (hk : P.underlying k = some .string)
    (hc : ∀ (D0 : DataW Unit) (nn : Nat) (W : World), B < W.heap.size → W.cell? ⟨B, 0, none⟩ = some (.map (some b)) → W.ownsMap P k (plainElem P e) b nn D0 → Maps.size D0 ≤ maxLen → Maps.size D0 * 16 ≤ 140737488355328 →
      Calls P f #[.func (.func it) #[] #[.pointer (some ⟨B, 0, none⟩)]] W fun en w' => ∃ (v : Value) (ss : List (List UInt8)), en = .returned v ∧ ss.Perm (strKeys D0) ∧ w'.ownsRow W.heap.size k 1 v ss.length ((ss.mergeSort (fun x y => decide (x ≤ y))).map Go.Proofs.encStr) ∧ (v = .slice none 0 0 ↔ ss = []) ∧ Below W.heap.size W w')
    (hb : l.length ≤ 4294967296) :
    Ct P f [.func (.func it) #[] #[ptr B 0]] Mo.tt (Ow.star (Blk B [.map (some b)] T) (MpK P k e b l)) (X := Sv Str) (fun q => q.val) (fun q => q.l = keysS l) (fun _ => Mo.tt) (fun q => q.own k) :=
  ⟨he, fun w hp z m hA d lh lz => by
    obtain ⟨z1, z2, doff, rfl, hB, hM⟩ := hA
    have lz2 : z2.le (wh w) := (Hp.le_join_right doff).trans lz
    have hBw : w.heap[B]? = some (.cells #[.map (some b)] T (0, 0)) := lz _ _ (Hp.le_join_left z1 z2 _ _ hB)
    obtain ⟨D, hown, hD⟩ := hM.owns lz2
    obtain ⟨es, hDe, hpw, hko⟩ := hown.entries (string_keyed hk)
    have hsz : Maps.size D ≤ l.length := by
      obtain ⟨es', clock, _, _, h3, h4⟩ := hown
      rw [h4]
      show (List.foldr DataW.insert [] (es'.toList.map (rg P k (plainElem P e)))).length ≤ _
      rw [length_sorted]
      simpa using h3
    refine (hc D l.length w (Array.getElem?_eq_some_iff.1 hBw).1 (by simp [World.cell?, hBw]) hown (by unfold maxLen; omega) (by omega)).mono fun en w' ⟨v, ss, h1, h2, h3, h4, h5⟩ => ?_
    have hcol : ∀ x, x ∈ ss ↔ x ∈ l := fun x => by
      rw [h2.mem_iff, ← hD x]
      obtain ⟨es2, hD2, hko2⟩ := hown.keysOf
      subst hD2
      rw [has_eq, List.any_eq_true]
      show x ∈ es2.map (fun p => strOf p.1) ↔ _
      rw [List.mem_map]
      constructor
      · rintro ⟨p, hp', rfl⟩
        obtain ⟨v', hv'⟩ := hko2 p hp'
        obtain ⟨a, _, ha, _⟩ := Maps.keyOf_str hk hv'
        exact ⟨p, hp', by rw [ha]; simp [Lit.sameKey, strOf]⟩
      · rintro ⟨p, hp', hs⟩
        obtain ⟨v', hv'⟩ := hko2 p hp'
        obtain ⟨a, _, ha, _⟩ := Maps.keyOf_str hk hv'
        rw [ha] at hs
        exact ⟨p, hp', by rw [ha]; simpa [Lit.sameKey, strOf] using hs⟩
    have hnd : ss.Nodup := by
      refine h2.nodup_iff.2 ?_
      obtain ⟨es2, hD2, hko2⟩ := hown.keysOf
      rw [hDe] at hD2
      obtain rfl : es = es2 := by simpa using hD2
      rw [hDe]
      show (es.map fun p => strOf p.1).Nodup
      refine List.pairwise_map.2 (hpw.imp_of_mem fun {p q} hp' hq' hne e' => hne ?_)
      obtain ⟨v1, hv1⟩ := hko2 p hp'
      obtain ⟨a, _, ha, _⟩ := Maps.keyOf_str hk hv1
      obtain ⟨v2, hv2⟩ := hko2 q hq'
      obtain ⟨b', _, hb', _⟩ := Maps.keyOf_str hk hv2
      rw [ha, hb'] at e' ⊢
      exact congrArg _ e'
    have hkeys := keysS_of hnd hcol
    rw [hkeys] at h3
    have hlk : (keysS l).length = ss.length := by rw [← hkeys]; exact (List.mergeSort_perm ss _).length_eq
    have hsz1 : Dat.sz Str = 1 := rfl
    have hfl : ∀ l : List Str, l.flatMap Dat.enc = l.map Go.Proofs.encStr := fun l => by rw [List.map_eq_flatMap]; rfl
    obtain ⟨r1, ⟨rfl, r2⟩ | ⟨g, cap, cur, rfl, r2, r3, r4, r5, r6, r7⟩⟩ := h3
    · refine ⟨_, h1, ⟨none, 0, []⟩, rfl, ?_, ?_⟩
      · show [] = keysS l
        exact (List.length_eq_zero_iff.1 (hlk.trans r2)).symm
      · have hgr := Gr.of_below h5
        refine ⟨⟨hp, Hp.nil, trivial, ⟨Nat.le_refl _, by simp [maxLen], .inl ⟨rfl, rfl⟩⟩, Hp.nil_off _, lh.trans hgr.le, (fun b p q => by cases q), Hp.le.refl hp, (fun b q => .inl q), (fun b q => absurd rfl q)⟩, fun b hb _ => hgr.block b hb, hgr.os, hgr.tape, hgr.output, hgr.size⟩
    · refine ⟨_, h1, ⟨some ⟨g, 0, none⟩, cap, keysS l⟩, by show Value.slice _ ss.length _ = Value.slice _ (keysS l).length _; rw [hlk], rfl, ?_⟩
      have hgr := Gr.of_below h5
      refine ⟨⟨hp, Hp.one g (.cells cur k (0, 0)), trivial, ⟨by rw [hlk]; exact r4, r5, .inr ⟨g, cur, rfl, Hp.one_self _ _, by rw [hsz1, r6], by rw [hsz1, hlk, hfl]; exact r7⟩⟩, fun i => ?_, lh.trans hgr.le, fun i p hp' => ?_, Hp.le.refl hp, fun i hi => .inl hi, fun i hi => .inr ?_⟩, fun i hi _ => hgr.block i hi, hgr.os, hgr.tape, hgr.output, hgr.size⟩
      · by_cases hig : i = g
        · left
          cases hq : hp i with
          | none => rfl
          | some o =>
            have := (Array.getElem?_eq_some_iff.1 (lh i o hq)).1
            omega
        · right; unfold Hp.one; rw [if_neg hig]
      · unfold Hp.one at hp'
        split at hp'
        · next q => subst q; cases hp'; exact r3
        · cases hp'
      · have : i = g := by
          unfold Hp.one at hi
          split at hi
          · assumption
          · exact absurd rfl hi
        subst this; exact r2⟩
end
end Go.V
end

section
set_option linter.unusedVariables false
namespace Go.S.Sh
open Go
def slices_Repeat0 (r : List Int) (n : Int) : Option (List Int) := gd (r = [-1] ∧ 0 ≤ n ∧ n ≤ 1048576) (some (List.replicate n.toNat (-1)))
noncomputable def unicode_utf8_RuneCountInString (s_0 : Str) : Option Int :=
 none
noncomputable def unicode_utf8_decodeRuneInStringSlow (s_0 : Str) : Option (Int × Int) :=
 if (s_0.length : Int) < 1 then (some (65533, 0))
 else ((at_ s_0 0).bind (fun z18_1 =>
 none))
noncomputable def unicode_utf8_DecodeRuneInString (s_0 : Str) : Option (Int × Int) :=
 jn (fun (x10_1 : Bool) =>
 if x10_1 = true then ((at_ s_0 0).bind (fun z12_4 =>
 some ((z12_4.toNat : Int), 1)))
 else ((Sh.unicode_utf8_decodeRuneInStringSlow s_0).bind (fun y16_5 =>
 some (y16_5.1, y16_5.2)))) (fun k2 => if s_0 = [] then (k2 false)
 else ((at_ s_0 0).bind (fun z8_3 =>
 k2 (decide ((z8_3.toNat : Int) < 128)))))
noncomputable def strings_explode (s_0 : Str) (n_1 : Int) : Option (List Str) :=
 (Sh.unicode_utf8_RuneCountInString s_0).bind (fun y11_1 =>
 jn (fun (n1_2 : Int) =>
 gd ((0 : Int) ≤ n1_2 ∧ n1_2 ≤ 4294967296) (
 lt (List.replicate n1_2.toNat []) (fun y21_7 =>
 iter (fun ((s0_8, a6_9, i7_10) : Str × List Str × Int) =>
 gd (I64 (n1_2 - 1)) (
 if i7_10 < (n1_2 - 1) then ((Sh.unicode_utf8_DecodeRuneInString s0_8).bind (fun y30_11 =>
 gd ((0 : Int) ≤ y30_11.2 ∧ y30_11.2 ≤ (s0_8.length : Int)) (
 lt (s0_8.take y30_11.2.toNat) (fun y37_12 =>
 (at_ a6_9 i7_10).bind (fun z38_13 =>
 lt (a6_9.set i7_10.toNat y37_12) (fun ys6_15 =>
 gd ((0 : Int) ≤ y30_11.2 ∧ y30_11.2 ≤ (s0_8.length : Int)) (
 lt (s0_8.drop y30_11.2.toNat) (fun y41_16 =>
 gd (I64 (i7_10 + 1)) (
 go (y41_16, ys6_15, (i7_10 + 1)))))))))))
 else (up (if 0 < n1_2 then (gd (I64 (n1_2 - 1)) (
 (at_ a6_9 (n1_2 - 1)).bind (fun z48_17 =>
 lt (a6_9.set (n1_2 - 1).toNat s0_8) (fun ys5_19 =>
 some ys5_19))))
 else (some a6_9))))) (s_0, y21_7, 0)))) (fun k3 => jn (fun (x18_4 : Bool) =>
 if x18_4 = true then (k3 y11_1)
 else (k3 n_1)) (fun k5 => if n_1 < 0 then (k5 true)
 else (k5 (decide (y11_1 < n_1))))))
noncomputable def internal_stringslite_IndexByte (s_0 : Str) (c_1 : Int) : Option Int :=
 some (ixB s_0 c_1)
noncomputable def internal_stringslite_Index (s_0 : Str) (substr_1 : Str) : Option Int :=
 jn (fun (x16_1 : Bool) =>
 if x16_1 = true then (some 0)
 else (if (substr_1.length : Int) = 1 then ((at_ substr_1 0).bind (fun z29_3 =>
 (Sh.internal_stringslite_IndexByte s_0 (z29_3.toNat : Int)).bind (fun y30_4 =>
 some y30_4)))
 else (if (s_0.length : Int) ≤ (substr_1.length : Int) then (some (-1))
 else (none)))) (fun k2 => if (substr_1.length : Int) = 0 then (k2 true)
 else (k2 (decide (substr_1 = s_0))))
noncomputable def strings_Index (s_0 : Str) (substr_1 : Str) : Option Int :=
 (Sh.internal_stringslite_Index s_0 substr_1).bind (fun y7_1 =>
 some y7_1)
noncomputable def strings_Count (s_0 : Str) (substr_1 : Str) : Option Int :=
 if (substr_1.length : Int) = 0 then ((Sh.unicode_utf8_RuneCountInString s_0).bind (fun y11_1 =>
 gd (I64 (y11_1 + 1)) (
 some (y11_1 + 1))))
 else (if (substr_1.length : Int) = 1 then ((at_ substr_1 0).bind (fun z18_2 =>
 some (cntB s_0 (z18_2.toNat : Int))))
 else (iter (fun ((s0_3, n5_4) : Str × Int) =>
 (Sh.strings_Index s0_3 substr_1).bind (fun y22_5 =>
 if y22_5 = (-1) then (up (some n5_4))
 else (gd (I64 (n5_4 + 1)) (
 gd (I64 (y22_5 + (substr_1.length : Int))) (
 gd ((0 : Int) ≤ (y22_5 + (substr_1.length : Int)) ∧ (y22_5 + (substr_1.length : Int)) ≤ (s0_3.length : Int)) (
 lt (s0_3.drop (y22_5 + (substr_1.length : Int)).toNat) (fun y33_6 =>
 go (y33_6, (n5_4 + 1))))))))) (s_0, 0)))
noncomputable def strings_genSplit (s_0 : Str) (sep_1 : Str) (sepSave_2 : Int) (n_3 : Int) : Option (List Str) :=
 if n_3 = 0 then (some [])
 else (if sep_1 = [] then ((Sh.strings_explode s_0 n_3).bind (fun y18_1 =>
 some y18_1))
 else (jn (fun (n3_2 : Int) =>
 gd (I64 ((s_0.length : Int) + 1)) (
 gd ((0 : Int) ≤ (min n3_2 ((s_0.length : Int) + 1)) ∧ (min n3_2 ((s_0.length : Int) + 1)) ≤ 4294967296) (
 lt (List.replicate (min n3_2 ((s_0.length : Int) + 1)).toNat []) (fun y31_6 =>
 gd (I64 ((min n3_2 ((s_0.length : Int) + 1)) - 1)) (
 jn (fun ((s0_7, a9_8, i10_9) : Str × List Str × Int) =>
 (at_ a9_8 i10_9).bind (fun z61_20 =>
 lt (a9_8.set i10_9.toNat s0_7) (fun ys4_22 =>
 gd (I64 (i10_9 + 1)) (
 gd ((0 : Int) ≤ (i10_9 + 1) ∧ (i10_9 + 1) ≤ (ys4_22.length : Int)) (
 lt (ys4_22.take (i10_9 + 1).toNat) (fun y65_24 =>
 some y65_24)))))) (fun k10 => iter (fun ((s0_11, a9_12, i10_13) : Str × List Str × Int) =>
 if i10_13 < ((min n3_2 ((s_0.length : Int) + 1)) - 1) then ((Sh.strings_Index s0_11 sep_1).bind (fun y39_14 =>
 if y39_14 < 0 then (up (k10 (s0_11, a9_12, i10_13)))
 else (gd (I64 (y39_14 + sepSave_2)) (
 gd ((0 : Int) ≤ (y39_14 + sepSave_2) ∧ (y39_14 + sepSave_2) ≤ (s0_11.length : Int)) (
 lt (s0_11.take (y39_14 + sepSave_2).toNat) (fun y48_15 =>
 (at_ a9_12 i10_13).bind (fun z49_16 =>
 lt (a9_12.set i10_13.toNat y48_15) (fun ys8_18 =>
 gd (I64 (y39_14 + (sep_1.length : Int))) (
 gd ((0 : Int) ≤ (y39_14 + (sep_1.length : Int)) ∧ (y39_14 + (sep_1.length : Int)) ≤ (s0_11.length : Int)) (
 lt (s0_11.drop (y39_14 + (sep_1.length : Int)).toNat) (fun y55_19 =>
 gd (I64 (i10_13 + 1)) (
 go (y55_19, ys8_18, (i10_13 + 1))))))))))))))
 else (up (k10 (s0_11, a9_12, i10_13)))) (s_0, y31_6, 0))))))) (fun k3 => if n_3 < 0 then ((Sh.strings_Count s_0 sep_1).bind (fun y23_4 =>
 gd (I64 (y23_4 + 1)) (
 k3 (y23_4 + 1))))
 else (k3 n_3))))
noncomputable def strings_Split (s_0 : Str) (sep_1 : Str) : Option (List Str) :=
 (Sh.strings_genSplit s_0 sep_1 0 (-1)).bind (fun y7_1 =>
 some y7_1)
noncomputable def path_good (c_0 : Int) : Option Bool :=
 jn (fun (_ : Unit) =>
 if 97 ≤ c_0 then (if c_0 ≤ 122 then (some true)
 else (if 48 ≤ c_0 then (some (decide (c_0 ≤ 57)))
 else (some false)))
 else (if 48 ≤ c_0 then (some (decide (c_0 ≤ 57)))
 else (some false))) (fun k1 => jn (fun (_ : Unit) =>
 some true) (fun k2 => if c_0 = 46 then (k2 ())
 else (if c_0 = 45 then (k2 ())
 else (if c_0 = 95 then (k2 ())
 else (k1 ())))))
noncomputable def path_part (s_0 : Str) : Option Bool :=
 jn (fun (x14_1 : Bool) =>
 if x14_1 = true then (some false)
 else (gd (s_0.length ≤ 4294967296) (
 lt s_0 (fun y16_4 =>
 iter (fun (x18_5 : Int) =>
 if x18_5 < (y16_4.length : Int) then ((at_ y16_4 x18_5).bind (fun z20_6 =>
 (Sh.path_good (z20_6.toNat : Int)).bind (fun y23_7 =>
 if (!y23_7) = true then (up (some false))
 else (gd (I64 (x18_5 + 1)) (
 go (x18_5 + 1))))))
 else (up (some true))) 0)))) (fun k2 => if s_0 = [] then (k2 true)
 else (if s_0 = [46] then (k2 true)
 else (k2 (decide (s_0 = [46, 46])))))
noncomputable def path_Check (p_0 : Str) : Option Int :=
 if 64 < (p_0.length : Int) then (some 4)
 else ((Sh.strings_Split p_0 [47]).bind (fun y9_1 =>
 iter (fun (x11_2 : Int) =>
 if x11_2 < (y9_1.length : Int) then ((at_ y9_1 x11_2).bind (fun z13_3 =>
 (Sh.path_part z13_3).bind (fun y16_4 =>
 if (!y16_4) = true then (up (some 5))
 else (gd (I64 (x11_2 + 1)) (
 go (x11_2 + 1))))))
 else (up (some 0))) 0))
noncomputable def cmp_isNaN_string (x_0 : Str) : Option Bool :=
 some (!decide (x_0 = x_0))
noncomputable def cmp_Compare_string (x_0 : Str) (y_1 : Str) : Option Int :=
 (Sh.cmp_isNaN_string x_0).bind (fun y8_1 =>
 (Sh.cmp_isNaN_string y_1).bind (fun y10_2 =>
 if y8_1 = true then (if y10_2 = true then (some 0)
 else (some (-1)))
 else (if y10_2 = true then (some 1)
 else (if (Op.bytesLess x_0 y_1) = true then (some (-1))
 else (if (!(Op.bytesLess x_0 y_1 || decide (x_0 = y_1))) = true then (some 1)
 else (some 0))))))
noncomputable def path_Compare (a_0 : Str) (b_1 : Str) : Option Int :=
 (Sh.cmp_Compare_string a_0 b_1).bind (fun y7_1 =>
 some y7_1)
noncomputable def internal_stringslite_HasPrefix (s_0 : Str) (prefix_1 : Str) : Option Bool :=
 if (prefix_1.length : Int) ≤ (s_0.length : Int) then (gd ((0 : Int) ≤ (prefix_1.length : Int) ∧ (prefix_1.length : Int) ≤ (s_0.length : Int)) (
 lt (s_0.take (prefix_1.length : Int).toNat) (fun y14_1 =>
 some (decide (y14_1 = prefix_1)))))
 else (some false)
noncomputable def strings_HasPrefix (s_0 : Str) (prefix_1 : Str) : Option Bool :=
 (Sh.internal_stringslite_HasPrefix s_0 prefix_1).bind (fun y7_1 =>
 some y7_1)
noncomputable def path_Under (p_0 : Str) (dir_1 : Str) : Option Bool :=
 if dir_1 = [] then (some (!decide (p_0 = [])))
 else (gd (I64 ((dir_1.length : Int) + 1)) (
 if ((dir_1.length : Int) + 1) < (p_0.length : Int) then (gd (dir_1.length + [47].length ≤ 9223372036854775807) (
 lt (dir_1 ++ [47]) (fun y18_1 =>
 (Sh.strings_HasPrefix p_0 y18_1).bind (fun y19_2 =>
 some y19_2))))
 else (some false)))
noncomputable def path_Clash (a_0 : Str) (b_1 : Str) : Option Bool :=
 if a_0 = [] then (some false)
 else (if b_1 = [] then (some false)
 else ((Sh.path_Under a_0 b_1).bind (fun y14_1 =>
 if y14_1 = true then (some true)
 else ((Sh.path_Under b_1 a_0).bind (fun y18_2 =>
 some y18_2)))))
noncomputable def files_Row_wrong_1 (g_0 : FilesFile) (a_1 : FilesFile) : Option Bool :=
 (Sh.path_Clash g_0.path a_1.path).bind (fun y8_2 =>
 some y8_2)
noncomputable def slices_IndexFunc_files_Row_files_File (s_0 : List FilesFile) (f_1_0 : FilesFile) : Option Int :=
 iter (fun (x8_1 : Int) =>
 if x8_1 < (s_0.length : Int) then ((at_ s_0 x8_1).bind (fun z14_2 =>
 (Sh.files_Row_wrong_1 z14_2 f_1_0).bind (fun y16_3 =>
 if y16_3 = true then (up (some x8_1))
 else (gd (I64 (x8_1 + 1)) (
 go (x8_1 + 1))))))
 else (up (some (-1)))) 0
noncomputable def slices_ContainsFunc_files_Row_files_File (s_0 : List FilesFile) (f_1_0 : FilesFile) : Option Bool :=
 (Sh.slices_IndexFunc_files_Row_files_File s_0 f_1_0).bind (fun y7_1 =>
 some (decide (0 ≤ y7_1)))
noncomputable def files_Row_wrong (r_0 : List FilesFile) (i_1 : Int) : Option Int :=
 (at_ r_0 i_1).bind (fun z9_1 =>
 (Sh.path_Check z9_1.path).bind (fun y13_3 =>
 if y13_3 = 0 then (jn (fun (x17_4 : Bool) =>
 if x17_4 = true then (some 1)
 else (if 4096 < (z9_1.data.length : Int) then (some 4)
 else (jn (fun (x31_6 : Bool) =>
 if x31_6 = true then (some 6)
 else (gd ((0 : Int) ≤ i_1 ∧ i_1 ≤ (r_0.length : Int)) (
 lt (r_0.take i_1.toNat) (fun y49_11 =>
 (Sh.slices_ContainsFunc_files_Row_files_File y49_11 z9_1).bind (fun y51_12 =>
 if y51_12 = true then (some 11)
 else (some 0)))))) (fun k7 => if 0 < i_1 then (gd (I64 (i_1 - 1)) (
 (at_ r_0 (i_1 - 1)).bind (fun z38_8 =>
 (Sh.path_Compare z38_8.path z9_1.path).bind (fun y43_9 =>
 k7 (decide (0 ≤ y43_9))))))
 else (k7 false))))) (fun k5 => if z9_1.mode = 1 then (k5 false)
 else (k5 (!decide (z9_1.mode = 2)))))
 else (some y13_3)))
noncomputable def files_Row_Check (r_0 : List FilesFile) : Option Err :=
 if 64 < (r_0.length : Int) then (some (Err.fault [102, 105, 108, 101] 64 (Err.no 4)))
 else (iter (fun (x14_2 : Int) =>
 if x14_2 < (r_0.length : Int) then ((Sh.files_Row_wrong r_0 x14_2).bind (fun y19_3 =>
 if y19_3 = 0 then (gd (I64 (x14_2 + 1)) (
 go (x14_2 + 1)))
 else (up (some (Err.fault [102, 105, 108, 101] x14_2 (Err.no y19_3))))))
 else (up (some Err.nil))) 0)
noncomputable def slices_Clip_string_string (s_0 : List Str) : Option (List Str) :=
 gd ((0 : Int) ≤ (s_0.length : Int) ∧ (s_0.length : Int) ≤ (s_0.length : Int)) (
 lt (s_0.take (s_0.length : Int).toNat) (fun y8_2 =>
 some y8_2))
noncomputable def files_Paths (l_0 : List (List FilesFile)) : Option (List Str) :=
 iter (fun ((x11_2, acc_3) : Int × List Str) =>
 if x11_2 < (l_0.length : Int) then ((at_ l_0 x11_2).bind (fun z13_4 =>
 iter (fun ((x17_5, acc_6) : Int × List Str) =>
 if x17_5 < (z13_4.length : Int) then ((at_ z13_4 x17_5).bind (fun z19_7 =>
 gd (acc_6.length ≤ 4294967296 ∧ z19_7.path.length ≤ 4294967296) (
 lt (z19_7.path :: acc_6) (fun accs3_9 =>
 gd (I64 (x17_5 + 1)) (
 go ((x17_5 + 1), accs3_9))))))
 else (up (gd (I64 (x11_2 + 1)) (
 go ((x11_2 + 1), acc_6))))) (0, acc_3)))
 else (up (gd (acc_3.length ≤ 4294967296) (
 lt (keysS acc_3) (fun y28_12 =>
 (Sh.slices_Clip_string_string y28_12).bind (fun y29_13 =>
 some y29_13)))))) (0, ([] : List Str))
noncomputable def files_Row_find_1 (f_0 : FilesFile) (p_1 : Str) : Option Int :=
 (Sh.path_Compare f_0.path p_1).bind (fun y8_2 =>
 some y8_2)
noncomputable def slices_BinarySearchFunc_files_Row_files_File_string (x_0 : List FilesFile) (target_1 : Str) : Option (Int × Bool) :=
 iter (fun ((i9_1, j10_2) : Int × Int) =>
 if i9_1 < j10_2 then (gd (I64 (i9_1 + j10_2)) (
 (at_ x_0 (IntKind.wrap .i64 (sHr .u64 (IntKind.wrap .u64 (i9_1 + j10_2)) 1))).bind (fun z27_3 =>
 (Sh.files_Row_find_1 z27_3 target_1).bind (fun y30_4 =>
 if y30_4 < 0 then (gd (I64 ((IntKind.wrap .i64 (sHr .u64 (IntKind.wrap .u64 (i9_1 + j10_2)) 1)) + 1)) (
 go (((IntKind.wrap .i64 (sHr .u64 (IntKind.wrap .u64 (i9_1 + j10_2)) 1)) + 1), j10_2)))
 else (go (i9_1, (IntKind.wrap .i64 (sHr .u64 (IntKind.wrap .u64 (i9_1 + j10_2)) 1))))))))
 else (up (if i9_1 < (x_0.length : Int) then ((at_ x_0 i9_1).bind (fun z43_5 =>
 (Sh.files_Row_find_1 z43_5 target_1).bind (fun y46_6 =>
 some (i9_1, (decide (y46_6 = 0))))))
 else (some (i9_1, false))))) (0, (x_0.length : Int))
noncomputable def files_Row_find (r_0 : List FilesFile) (p_1 : Str) : Option (Int × Bool) :=
 (Sh.slices_BinarySearchFunc_files_Row_files_File_string r_0 p_1).bind (fun y8_1 =>
 some (y8_1.1, y8_1.2))
noncomputable def files_Row_Get (r_0 : List FilesFile) (p_1 : Str) : Option (FilesFile × Bool) :=
 (Sh.files_Row_find r_0 p_1).bind (fun y11_2 =>
 if (!y11_2.2) = true then (some (⟨[], 0, []⟩, false))
 else ((at_ r_0 y11_2.1).bind (fun z19_3 =>
 some (⟨z19_3.path, z19_3.mode, z19_3.data⟩, true))))
noncomputable def tmerge_of (r_0 : List FilesFile) (p_1 : Str) : Option TmergeOne :=
 (Sh.files_Row_Get r_0 p_1).bind (fun y10_2 =>
 some ⟨y10_2.1.path, y10_2.1.mode, y10_2.1.data, y10_2.2⟩)
noncomputable def tmerge_mode (base_0 : TmergeOne) (ours_1 : TmergeOne) (theirs_2 : TmergeOne) : Option Int :=
 jn (fun (x17_4 : Bool) =>
 if x17_4 = true then (some theirs_2.file_mode)
 else (some ours_1.file_mode)) (fun k5 => if base_0.is = true then (k5 (decide (base_0.file_mode = ours_1.file_mode)))
 else (k5 false))
noncomputable def lines_Split (s_0 : Str) : Option (List Str) :=
 iter (fun ((s0_1, out3_2) : Str × List Str) =>
 if s0_1 = [] then (up ((Sh.slices_Clip_string_string out3_2).bind (fun y26_12 =>
 some y26_12)))
 else ((Sh.strings_Index s0_1 [10]).bind (fun y8_3 =>
 jn (fun (i4_4 : Int) =>
 gd (I64 (i4_4 + 1)) (
 gd ((0 : Int) ≤ (i4_4 + 1) ∧ (i4_4 + 1) ≤ (s0_1.length : Int)) (
 lt (s0_1.take (i4_4 + 1).toNat) (fun y18_6 =>
 lt [y18_6] (fun y19_8 =>
 gd (out3_2.length + y19_8.length ≤ 4294967296) (
 lt (out3_2 ++ y19_8) (fun y20_10 =>
 gd (I64 (i4_4 + 1)) (
 gd ((0 : Int) ≤ (i4_4 + 1) ∧ (i4_4 + 1) ≤ (s0_1.length : Int)) (
 lt (s0_1.drop (i4_4 + 1).toNat) (fun y24_11 =>
 go (y24_11, y20_10))))))))))) (fun k5 => if y8_3 < 0 then (gd (I64 ((s0_1.length : Int) - 1)) (
 k5 ((s0_1.length : Int) - 1)))
 else (k5 y8_3))))) (s_0, [])
noncomputable def diff_made (a_0 : List Str) (b_1 : List Str) : Option ((Unit × Err) ⊕ (DiffTableP × Unit)) :=
 if 256 < (a_0.length : Int) then (some (.inl ((), (Err.fault [108, 105, 110, 101, 115] 0 (Err.no 4)))))
 else (if 256 < (b_1.length : Int) then (some (.inl ((), (Err.fault [108, 105, 110, 101, 115] 1 (Err.no 4)))))
 else (gd (I64 ((a_0.length : Int) + 1)) (
 gd (I64 ((b_1.length : Int) + 1)) (
 gd (I64 (((a_0.length : Int) + 1) * ((b_1.length : Int) + 1))) (
 gd ((0 : Int) ≤ (((a_0.length : Int) + 1) * ((b_1.length : Int) + 1)) ∧ (((a_0.length : Int) + 1) * ((b_1.length : Int) + 1)) ≤ 4294967296) (
 lt (List.replicate (((a_0.length : Int) + 1) * ((b_1.length : Int) + 1)).toNat 0) (fun y33_4 =>
 gd (I64 ((a_0.length : Int) - 1)) (
 iter (fun (i7_6 : Int) =>
 if 0 ≤ i7_6 then (gd (I64 ((b_1.length : Int) - 1)) (
 iter (fun (_ : Unit) =>
 if 0 ≤ ((b_1.length : Int) - 1) then (gd (I64 (i7_6 + 1)) (
 none))
 else (up (gd (I64 (i7_6 - 1)) (
 go (i7_6 - 1))))) ()))
 else (up (some (.inr (⟨a_0, b_1, y33_4⟩, ()))))) ((a_0.length : Int) - 1)))))))))
noncomputable def slices_Clip_diff_Edit_diff_Edit (s_0 : List DiffEdit) : Option (List DiffEdit) :=
 gd ((0 : Int) ≤ (s_0.length : Int) ∧ (s_0.length : Int) ≤ (s_0.length : Int)) (
 lt (s_0.take (s_0.length : Int).toNat) (fun y8_2 =>
 some y8_2))
noncomputable def diff_Lines (a_0 : List Str) (b_1 : List Str) : Option (List DiffEdit × Err) :=
 (Sh.diff_made a_0 b_1).bind (fun y16_1 =>
 (match y16_1 with
 | .inl y16_1 => (if y16_1.2.isNil = true then (jn (fun (_ : Unit) =>
 (Sh.slices_Clip_diff_Edit_diff_Edit []).bind (fun y64_4 =>
 some (y64_4, Err.nil))) (fun k2 => iter (fun (_ : Unit) =>
 jn (fun (_ : Unit) =>
 none) (fun k3 => if 0 < (a_0.length : Int) then (k3 ())
 else (if 0 < (b_1.length : Int) then (k3 ())
 else (up (k2 ()))))) ()))
 else (some ([], y16_1.2)))
 | .inr y16_1 => (jn (fun (_ : Unit) =>
 (Sh.slices_Clip_diff_Edit_diff_Edit []).bind (fun y64_7 =>
 some (y64_7, Err.nil))) (fun k5 => iter (fun (_ : Unit) =>
 jn (fun (_ : Unit) =>
 none) (fun k6 => if 0 < (a_0.length : Int) then (k6 ())
 else (if 0 < (b_1.length : Int) then (k6 ())
 else (up (k5 ()))))) ()))))
noncomputable def slices_Clip_diff_Match_diff_Match (s_0 : List DiffMatch) : Option (List DiffMatch) :=
 gd ((0 : Int) ≤ (s_0.length : Int) ∧ (s_0.length : Int) ≤ (s_0.length : Int)) (
 lt (s_0.take (s_0.length : Int).toNat) (fun y8_2 =>
 some y8_2))
noncomputable def diff_Matches (a_0 : List Str) (b_1 : List Str) : Option (List DiffMatch × Err) :=
 (Sh.diff_Lines a_0 b_1).bind (fun y17_1 =>
 if y17_1.2.isNil = true then (iter (fun ((out8_2, i9_3, j10_4, row11_5, x25_6) : List DiffMatch × Int × Int × Bool × Int) =>
 if x25_6 < (y17_1.1.length : Int) then ((at_ y17_1.1 x25_6).bind (fun z27_7 =>
 jn (fun (out8_9 : List DiffMatch) =>
 jn (fun (i9_21 : Int) =>
 if z27_7.op = 2 then (gd (I64 (x25_6 + 1)) (
 go (out8_9, i9_21, j10_4, (decide (z27_7.op = 1)), (x25_6 + 1))))
 else (gd (I64 (j10_4 + 1)) (
 gd (I64 (x25_6 + 1)) (
 go (out8_9, i9_21, (j10_4 + 1), (decide (z27_7.op = 1)), (x25_6 + 1)))))) (fun k22 => if z27_7.op = 3 then (k22 i9_3)
 else (gd (I64 (i9_3 + 1)) (
 k22 (i9_3 + 1))))) (fun k10 => if z27_7.op = 1 then (jn (fun (out8_11 : List DiffMatch) =>
 gd (I64 ((out8_11.length : Int) - 1)) (
 (at_ out8_11 ((out8_11.length : Int) - 1)).bind (fun z44_17 =>
 gd (I64 (z44_17.n + 1)) (
 (at_ out8_11 ((out8_11.length : Int) - 1)).bind (fun z48_18 =>
 lt (out8_11.set ((out8_11.length : Int) - 1).toNat ⟨z48_18.a, z48_18.b, (z44_17.n + 1)⟩) (fun ys10_20 =>
 k10 ys10_20)))))) (fun k12 => if (!row11_5) = true then (lt [⟨i9_3, j10_4, 0⟩] (fun y38_14 =>
 gd (out8_2.length + y38_14.length ≤ 4294967296) (
 lt (out8_2 ++ y38_14) (fun y39_16 =>
 k12 y39_16))))
 else (k12 out8_2)))
 else (k10 out8_2))))
 else (up ((Sh.slices_Clip_diff_Match_diff_Match out8_2).bind (fun y65_23 =>
 some (y65_23, Err.nil))))) ([], 0, 0, false, 0))
 else (some ([], y17_1.2)))
noncomputable def merge_places0 (base_0 : List Str) (other_1 : List Str) : Option (List Int × Err) :=
 (Sh.diff_Matches base_0 other_1).bind (fun y15_1 =>
 if y15_1.2.isNil = true then (lt [(-1)] (fun y21_3 =>
 (Sh.slices_Repeat0 y21_3 (base_0.length : Int)).bind (fun y24_4 =>
 iter (fun ((out8_5, x27_6) : List Int × Int) =>
 if x27_6 < (y15_1.1.length : Int) then ((at_ y15_1.1 x27_6).bind (fun z29_7 =>
 iter (fun ((out8_9, x33_10) : List Int × Int) =>
 if x33_10 < z29_7.n then (gd (I64 (z29_7.a + x33_10)) (
 gd (I64 (z29_7.b + x33_10)) (
 (at_ out8_9 (z29_7.a + x33_10)).bind (fun z45_11 =>
 lt (out8_9.set (z29_7.a + x33_10).toNat (z29_7.b + x33_10)) (fun ys10_13 =>
 gd (I64 (x33_10 + 1)) (
 go (ys10_13, (x33_10 + 1))))))))
 else (up (gd (I64 (x27_6 + 1)) (
 go (out8_9, (x27_6 + 1)))))) (out8_5, 0)))
 else (up (some (out8_5, Err.nil)))) (y24_4, 0))))
 else (some ([], y15_1.2)))
noncomputable def merge_places (base_0 : List Str) (other_1 : List Str) : Option (List Int × Err) := if base_0.length ≤ 256 ∧ other_1.length ≤ 256 then some (P.places base_0 other_1, Err.nil) else Sh.merge_places0 base_0 other_1
noncomputable def merge_Chunks0 (base_0 : List Str) (ours_1 : List Str) (theirs_2 : List Str) : Option (List P.Chunk × Err) :=
 (Sh.merge_places base_0 ours_1).bind (fun y18_1 =>
 if y18_1.2.isNil = true then ((Sh.merge_places base_0 theirs_2).bind (fun y27_2 =>
 if y27_2.2.isNil = true then (iter (fun (x40_4 : Int) =>
 if x40_4 < (base_0.length : Int) then (jn (fun (x54_5 : Bool) =>
 if x54_5 = true then ((at_ y18_1.1 x40_4).bind (fun z59_9 =>
 (at_ y27_2.1 x40_4).bind (fun z63_10 =>
 none)))
 else (gd (I64 (x40_4 + 1)) (
 go (x40_4 + 1)))) (fun k6 => (at_ y18_1.1 x40_4).bind (fun z45_7 =>
 if 0 ≤ z45_7 then ((at_ y27_2.1 x40_4).bind (fun z51_8 =>
 k6 (decide (0 ≤ z51_8))))
 else (k6 false))))
 else (up (none))) 0)
 else (some ([], y27_2.2))))
 else (some ([], y18_1.2)))
noncomputable def merge_Chunks (base_0 : List Str) (ours_1 : List Str) (theirs_2 : List Str) : Option (List P.Chunk × Err) := if base_0.length ≤ 256 ∧ ours_1.length ≤ 256 ∧ theirs_2.length ≤ 256 then some (P.chunks base_0 ours_1 theirs_2, Err.nil) else Sh.merge_Chunks0 base_0 ours_1 theirs_2
noncomputable def lines_Join (l_0 : List Str) : Option Str :=
 gd (l_0.length ≤ 4294967296 ∧ (joinS l_0 []).length ≤ 4294967296) (
 lt (joinS l_0 []) (fun y4_1 =>
 some y4_1))
noncomputable def internal_stringslite_HasSuffix (s_0 : Str) (suffix_1 : Str) : Option Bool :=
 if (suffix_1.length : Int) ≤ (s_0.length : Int) then (gd (I64 ((s_0.length : Int) - (suffix_1.length : Int))) (
 gd ((0 : Int) ≤ ((s_0.length : Int) - (suffix_1.length : Int)) ∧ ((s_0.length : Int) - (suffix_1.length : Int)) ≤ (s_0.length : Int)) (
 lt (s_0.drop ((s_0.length : Int) - (suffix_1.length : Int)).toNat) (fun y17_1 =>
 some (decide (y17_1 = suffix_1))))))
 else (some false)
noncomputable def strings_HasSuffix (s_0 : Str) (suffix_1 : Str) : Option Bool :=
 (Sh.internal_stringslite_HasSuffix s_0 suffix_1).bind (fun y7_1 =>
 some y7_1)
noncomputable def lines_Whole (s_0 : Str) : Option Bool :=
 if s_0 = [] then (some true)
 else ((Sh.strings_HasSuffix s_0 [10]).bind (fun y7_1 =>
 some y7_1))
noncomputable def merge_closed (l_0 : List Str) : Option Str :=
 (Sh.lines_Join l_0).bind (fun y5_1 =>
 (Sh.lines_Whole y5_1).bind (fun y7_2 =>
 if (!y7_2) = true then (gd (y5_1.length + [10].length ≤ 9223372036854775807) (
 lt (y5_1 ++ [10]) (fun y10_3 =>
 some y10_3)))
 else (some y5_1)))
noncomputable def merge_clash (c_0 : P.Chunk) (a_1 : Str) (b_2 : Str) : Option Str :=
 gd ([60, 60, 60, 60, 60, 60, 60, 32].length + a_1.length ≤ 9223372036854775807) (
 lt ([60, 60, 60, 60, 60, 60, 60, 32] ++ a_1) (fun y8_2 =>
 gd (y8_2.length + [10].length ≤ 9223372036854775807) (
 lt (y8_2 ++ [10]) (fun y9_3 =>
 (Sh.merge_closed c_0.ours).bind (fun y12_4 =>
 gd (y9_3.length + y12_4.length ≤ 9223372036854775807) (
 lt (y9_3 ++ y12_4) (fun y13_5 =>
 gd (y13_5.length + [61, 61, 61, 61, 61, 61, 61, 10].length ≤ 9223372036854775807) (
 lt (y13_5 ++ [61, 61, 61, 61, 61, 61, 61, 10]) (fun y14_6 =>
 (Sh.merge_closed c_0.theirs).bind (fun y17_7 =>
 gd (y14_6.length + y17_7.length ≤ 9223372036854775807) (
 lt (y14_6 ++ y17_7) (fun y18_8 =>
 gd (y18_8.length + [62, 62, 62, 62, 62, 62, 62, 32].length ≤ 9223372036854775807) (
 lt (y18_8 ++ [62, 62, 62, 62, 62, 62, 62, 32]) (fun y19_9 =>
 gd (y19_9.length + b_2.length ≤ 9223372036854775807) (
 lt (y19_9 ++ b_2) (fun y21_10 =>
 gd (y21_10.length + [10].length ≤ 9223372036854775807) (
 lt (y21_10 ++ [10]) (fun y22_11 =>
 some y22_11))))))))))))))))))
noncomputable def merge_Text (base_0 : Str) (ours_1 : Str) (theirs_2 : Str) (a_3 : Str) (b_4 : Str) : Option (Str × Int × Err) :=
 (Sh.lines_Split base_0).bind (fun y21_1 =>
 (Sh.lines_Split ours_1).bind (fun y23_2 =>
 (Sh.lines_Split theirs_2).bind (fun y25_3 =>
 (Sh.merge_Chunks y21_1 y23_2 y25_3).bind (fun y26_4 =>
 if y26_4.2.isNil = true then (iter (fun ((n16_6, x34_7, acc_8) : Int × Int × Str) =>
 if x34_7 < (y26_4.1.length : Int) then ((at_ y26_4.1 x34_7).bind (fun z36_9 =>
 if z36_9.clash = true then (gd (I64 (n16_6 + 1)) (
 (Sh.merge_clash z36_9 a_3 b_4).bind (fun y45_11 =>
 gd (acc_8.length + y45_11.length ≤ 4294967296) (
 lt (acc_8 ++ y45_11) (fun acc46_12 =>
 gd (I64 (x34_7 + 1)) (
 go ((n16_6 + 1), (x34_7 + 1), acc46_12)))))))
 else ((Sh.lines_Join z36_9.out).bind (fun y49_13 =>
 gd (acc_8.length + y49_13.length ≤ 4294967296) (
 lt (acc_8 ++ y49_13) (fun acc50_14 =>
 gd (I64 (x34_7 + 1)) (
 go (n16_6, (x34_7 + 1), acc50_14))))))))
 else (up (some (acc_8, n16_6, Err.nil)))) (0, 0, []))
 else (some ([], 0, y26_4.2))))))
noncomputable def tmerge_both (base_0 : TmergeOne) (ours_1 : TmergeOne) (theirs_2 : TmergeOne) (a_3 : Str) (b_4 : Str) : Option (FilesFile × Bool) :=
 (Sh.tmerge_mode base_0 ours_1 theirs_2).bind (fun y22_5 =>
 jn (fun (x27_7 : Bool) =>
 if x27_7 = true then (some (⟨ours_1.file_path, y22_5, ours_1.file_data⟩, false))
 else (jn (fun (x49_9 : Bool) =>
 if x49_9 = true then (some (⟨ours_1.file_path, y22_5, theirs_2.file_data⟩, false))
 else ((Sh.merge_Text base_0.file_data ours_1.file_data theirs_2.file_data a_3 b_4).bind (fun y78_11 =>
 jn (fun (x88_12 : Bool) =>
 if x88_12 = true then (some (⟨ours_1.file_path, y22_5, ours_1.file_data⟩, true))
 else (some (⟨ours_1.file_path, y22_5, y78_11.1⟩, (decide (0 < y78_11.2.1))))) (fun k13 => if y78_11.2.2.isNil = true then (k13 (decide (4096 < (y78_11.1.length : Int))))
 else (k13 true))))) (fun k10 => if base_0.is = true then (k10 (decide (ours_1.file_data = base_0.file_data)))
 else (k10 false)))) (fun k8 => if ours_1.file_data = theirs_2.file_data then (k8 true)
 else (if base_0.is = true then (k8 (decide (theirs_2.file_data = base_0.file_data)))
 else (k8 false))))
noncomputable def tmerge_One (p_0 : Str) (base_1 : List FilesFile) (ours_2 : List FilesFile) (theirs_3 : List FilesFile) (a_4 : Str) (b_5 : Str) : Option (FilesFile × Bool × Bool) :=
 (Sh.tmerge_of base_1 p_0).bind (fun y20_2 =>
 (Sh.tmerge_of ours_2 p_0).bind (fun y23_3 =>
 (Sh.tmerge_of theirs_3 p_0).bind (fun y26_4 =>
 jn (fun (x27_8 : Bool) =>
 if x27_8 = true then (some (⟨y23_3.file_path, y23_3.file_mode, y23_3.file_data⟩, y23_3.is, false))
 else (if y20_2.file_path = y23_3.file_path ∧ y20_2.file_mode = y23_3.file_mode ∧ y20_2.file_data = y23_3.file_data ∧ y20_2.is = y23_3.is then (some (⟨y26_4.file_path, y26_4.file_mode, y26_4.file_data⟩, y26_4.is, false))
 else (jn (fun (x48_10 : Bool) =>
 if x48_10 = true then ((Sh.tmerge_both y20_2 y23_3 y26_4 a_4 b_5).bind (fun y61_12 =>
 some (⟨y61_12.1.path, y61_12.1.mode, y61_12.1.data⟩, true, y61_12.2)))
 else (if y23_3.is = true then (some (⟨y23_3.file_path, y23_3.file_mode, y23_3.file_data⟩, true, true))
 else (some (⟨y26_4.file_path, y26_4.file_mode, y26_4.file_data⟩, true, true)))) (fun k11 => if y23_3.is = true then (k11 y26_4.is)
 else (k11 false))))) (fun k9 => if y23_3.file_path = y26_4.file_path ∧ y23_3.file_mode = y26_4.file_mode ∧ y23_3.file_data = y26_4.file_data ∧ y23_3.is = y26_4.is then (k9 true)
 else (k9 (decide (y20_2.file_path = y26_4.file_path ∧ y20_2.file_mode = y26_4.file_mode ∧ y20_2.file_data = y26_4.file_data ∧ y20_2.is = y26_4.is)))))))
noncomputable def tmerge_stages (p_0 : Str) (rows_1 : List (List FilesFile)) : Option (List IndexEntry) :=
 iter (fun ((out5_1, x12_2) : List IndexEntry × Int) =>
 if x12_2 < (rows_1.length : Int) then ((at_ rows_1 x12_2).bind (fun z15_3 =>
 (Sh.files_Row_Get z15_3 p_0).bind (fun y20_4 =>
 if y20_4.2 = true then (gd (I64 (x12_2 + 1)) (
 lt [⟨p_0, (x12_2 + 1), y20_4.1.mode, y20_4.1.data, 0, 0⟩] (fun y33_7 =>
 gd (out5_1.length + y33_7.length ≤ 4294967296) (
 lt (out5_1 ++ y33_7) (fun y34_9 =>
 gd (I64 (x12_2 + 1)) (
 go (y34_9, (x12_2 + 1))))))))
 else (gd (I64 (x12_2 + 1)) (
 go (out5_1, (x12_2 + 1)))))))
 else (up (some out5_1))) ([], 0)
noncomputable def tmerge_fault_1 (g_0 : FilesFile) (a_1 : FilesFile) : Option Bool :=
 (Sh.path_Clash g_0.path a_1.path).bind (fun y8_2 =>
 some y8_2)
noncomputable def slices_IndexFunc_files_Row_files_File_v2 (s_0 : List FilesFile) (f_1_0 : FilesFile) : Option Int :=
 iter (fun (x8_1 : Int) =>
 if x8_1 < (s_0.length : Int) then ((at_ s_0 x8_1).bind (fun z14_2 =>
 (Sh.tmerge_fault_1 z14_2 f_1_0).bind (fun y16_3 =>
 if y16_3 = true then (up (some x8_1))
 else (gd (I64 (x8_1 + 1)) (
 go (x8_1 + 1))))))
 else (up (some (-1)))) 0
noncomputable def slices_ContainsFunc_files_Row_files_File_v2 (s_0 : List FilesFile) (f_1_0 : FilesFile) : Option Bool :=
 (Sh.slices_IndexFunc_files_Row_files_File_v2 s_0 f_1_0).bind (fun y7_1 =>
 some (decide (0 ≤ y7_1)))
noncomputable def tmerge_fault (r_0 : List FilesFile) : Option Err :=
 if 64 < (r_0.length : Int) then (some (Err.fault [102, 105, 108, 101] 64 (Err.no 4)))
 else (iter (fun (x14_2 : Int) =>
 if x14_2 < (r_0.length : Int) then ((at_ r_0 x14_2).bind (fun z17_3 =>
 gd ((0 : Int) ≤ x14_2 ∧ x14_2 ≤ (r_0.length : Int)) (
 lt (r_0.take x14_2.toNat) (fun y21_6 =>
 (Sh.slices_ContainsFunc_files_Row_files_File_v2 y21_6 z17_3).bind (fun y23_7 =>
 if y23_7 = true then (up (some (Err.fault [102, 105, 108, 101] x14_2 (Err.no 11))))
 else (gd (I64 (x14_2 + 1)) (
 go (x14_2 + 1))))))))
 else (up (some Err.nil))) 0)
noncomputable def slices_Clip_files_Row_files_File (s_0 : List FilesFile) : Option (List FilesFile) :=
 gd ((0 : Int) ≤ (s_0.length : Int) ∧ (s_0.length : Int) ≤ (s_0.length : Int)) (
 lt (s_0.take (s_0.length : Int).toNat) (fun y8_2 =>
 some y8_2))
noncomputable def slices_Clip_index_Entry_index_Entry (s_0 : List IndexEntry) : Option (List IndexEntry) :=
 gd ((0 : Int) ≤ (s_0.length : Int) ∧ (s_0.length : Int) ≤ (s_0.length : Int)) (
 lt (s_0.take (s_0.length : Int).toNat) (fun y8_2 =>
 some y8_2))
noncomputable def tmerge_Merge (base_0 : List FilesFile) (ours_1 : List FilesFile) (theirs_2 : List FilesFile) (a_3 : Str) (b_4 : Str) : Option (TmergeResultP × Err) :=
 lt [base_0, ours_1, theirs_2] (fun y25_3 =>
 iter (fun (x27_4 : Int) =>
 if x27_4 < (y25_3.length : Int) then ((at_ y25_3 x27_4).bind (fun z29_5 =>
 (Sh.files_Row_Check z29_5).bind (fun y32_6 =>
 if y32_6.isNil = true then (gd (I64 (x27_4 + 1)) (
 go (x27_4 + 1)))
 else (up (some (⟨[], [], []⟩, y32_6))))))
 else (up (lt [base_0, ours_1, theirs_2] (fun y41_9 =>
 (Sh.files_Paths y41_9).bind (fun y42_10 =>
 iter (fun ((x44_11, c0_12, c1_13, c2_14) : Int × List FilesFile × List IndexEntry × List Str) =>
 if x44_11 < (y42_10.length : Int) then ((at_ y42_10 x44_11).bind (fun z46_15 =>
 (Sh.tmerge_One z46_15 base_0 ours_1 theirs_2 a_3 b_4).bind (fun y55_16 =>
 jn (fun (c0_18 : List FilesFile) =>
 if y55_16.2.2 = true then (lt [z46_15] (fun y70_25 =>
 gd (c2_14.length + y70_25.length ≤ 4294967296) (
 lt (c2_14 ++ y70_25) (fun y71_27 =>
 lt [base_0, ours_1, theirs_2] (fun y79_29 =>
 (Sh.tmerge_stages z46_15 y79_29).bind (fun y80_30 =>
 gd (c1_13.length + y80_30.length ≤ 4294967296) (
 lt (c1_13 ++ y80_30) (fun y81_32 =>
 gd (I64 (x44_11 + 1)) (
 go ((x44_11 + 1), c0_18, y81_32, y71_27))))))))))
 else (gd (I64 (x44_11 + 1)) (
 go ((x44_11 + 1), c0_18, c1_13, c2_14)))) (fun k19 => if y55_16.2.1 = true then (lt [⟨y55_16.1.path, y55_16.1.mode, y55_16.1.data⟩] (fun y63_21 =>
 gd (c0_12.length + y63_21.length ≤ 4294967296) (
 lt (c0_12 ++ y63_21) (fun y64_23 =>
 k19 y64_23))))
 else (k19 c0_12)))))
 else (up ((Sh.tmerge_fault c0_12).bind (fun y86_33 =>
 if y86_33.isNil = true then ((Sh.slices_Clip_files_Row_files_File c0_12).bind (fun y93_34 =>
 (Sh.slices_Clip_index_Entry_index_Entry c1_13).bind (fun y96_35 =>
 (Sh.slices_Clip_string_string c2_14).bind (fun y99_36 =>
 some (⟨y93_34, y96_35, y99_36⟩, Err.nil)))))
 else (some (⟨[], [], []⟩, y86_33)))))) (0, ([] : List FilesFile), ([] : List IndexEntry), ([] : List Str))))))) 0)
noncomputable def rectolaw16_known  : Option Bool :=
 lt [⟨[97], 1, [120, 10]⟩, ⟨[98], 1, [121, 10]⟩] (fun y11_2 =>
 lt [⟨[97], 1, [88, 10]⟩, ⟨[98], 1, [49, 10]⟩] (fun y14_4 =>
 lt [⟨[97], 1, [120, 10]⟩, ⟨[98], 1, [50, 10]⟩] (fun y17_6 =>
 (Sh.tmerge_Merge y11_2 y14_4 y17_6 [112] [113]).bind (fun y22_7 =>
 (Sh.tmerge_One [97] y11_2 y14_4 y17_6 [112] [113]).bind (fun y29_9 =>
 if y22_7.2.isNil = true then (if (y22_7.1.files.length : Int) = 2 then ((at_ y22_7.1.files 0).bind (fun z44_11 =>
 if z44_11.data = [88, 10] then (if (y22_7.1.conflicts.length : Int) = 1 then ((at_ y22_7.1.conflicts 0).bind (fun z58_12 =>
 if z58_12 = [98] then (if (y22_7.1.entries.length : Int) = 3 then (if y29_9.1.data = [88, 10] then (if y29_9.2.1 = true then (some (!y29_9.2.2))
 else (some false))
 else (some false))
 else (some false))
 else (some false)))
 else (some false))
 else (some false)))
 else (some false))
 else (some false))))))
noncomputable def rectolaw14_Few (r_0 : List FilesFile) : Option Bool :=
 if 80 < (r_0.length : Int) then (some false)
 else (iter (fun (i3_1 : Int) =>
 if i3_1 < (r_0.length : Int) then (jn (fun (x28_2 : Bool) =>
 if x28_2 = true then (up (some false))
 else (gd (I64 (i3_1 + 1)) (
 go (i3_1 + 1)))) (fun k3 => (at_ r_0 i3_1).bind (fun z15_4 =>
 if 100 < (z15_4.path.length : Int) then (k3 true)
 else ((at_ r_0 i3_1).bind (fun z23_5 =>
 k3 (decide (5000 < (z23_5.data.length : Int))))))))
 else (up (some true))) 0)
noncomputable def rectolaw16_short (r_0 : List FilesFile) : Option Bool :=
 if 20 < (r_0.length : Int) then (if 64 < (r_0.length : Int) then (some (decide ((r_0.length : Int) ≤ 80)))
 else (some false))
 else (iter (fun ((n3_1, i4_2) : Int × Int) =>
 if i4_2 < (r_0.length : Int) then ((at_ r_0 i4_2).bind (fun z25_3 =>
 gd (I64 (n3_1 + (z25_3.data.length : Int))) (
 jn (fun (x45_4 : Bool) =>
 if x45_4 = true then (up (some false))
 else (gd (I64 (i4_2 + 1)) (
 go ((n3_1 + (z25_3.data.length : Int)), (i4_2 + 1))))) (fun k5 => (at_ r_0 i4_2).bind (fun z32_6 =>
 if 300 < (z32_6.data.length : Int) then ((at_ r_0 i4_2).bind (fun z40_7 =>
 k5 (decide ((z40_7.data.length : Int) ≤ 4096))))
 else (k5 false))))))
 else (up (if n3_1 ≤ 3000 then (some true)
 else (some (decide (4096 < n3_1)))))) (0, 0))
noncomputable def rectolaw16_TreesStages (b_0 : List FilesFile) (o_1 : List FilesFile) (t_2 : List FilesFile) : Option Bool :=
 (Sh.rectolaw16_known).bind (fun y16_1 =>
 if (!y16_1) = true then (some false)
 else (jn (fun (x45_2 : Bool) =>
 if x45_2 = true then (some true)
 else ((Sh.tmerge_Merge b_0 o_1 t_2 [120] [121]).bind (fun y50_10 =>
 if y50_10.2.isNil = true then (lt [b_0, o_1, t_2] (fun y68_13 =>
 iter (fun ((n10_14, i11_15) : Int × Int) =>
 if i11_15 < (y50_10.1.conflicts.length : Int) then (iter (fun ((n10_16, s12_17) : Int × Int) =>
 if s12_17 ≤ 3 then (jn (fun (n10_18 : Int) =>
 gd (I64 (s12_17 + 1)) (
 go (n10_18, (s12_17 + 1)))) (fun k19 => gd (I64 (s12_17 - 1)) (
 (at_ y68_13 (s12_17 - 1)).bind (fun z84_20 =>
 (at_ y50_10.1.conflicts i11_15).bind (fun z89_21 =>
 (Sh.files_Row_Get z84_20 z89_21).bind (fun y91_22 =>
 if (!y91_22.2) = true then (k19 n10_16)
 else (if (y50_10.1.entries.length : Int) ≤ n10_16 then (up (up (some false)))
 else ((at_ y50_10.1.entries n10_16).bind (fun z104_24 =>
 jn (fun (x130_26 : Bool) =>
 if x130_26 = true then (up (up (some false)))
 else (gd (I64 (n10_16 + 1)) (
 k19 (n10_16 + 1)))) (fun k27 => if z104_24.path = y91_22.1.path then (if z104_24.stage = s12_17 then (if z104_24.mode = y91_22.1.mode then (k27 (!decide (z104_24.data = y91_22.1.data)))
 else (k27 true))
 else (k27 true))
 else (k27 true)))))))))))
 else (up (gd (I64 (i11_15 + 1)) (
 go (n10_16, (i11_15 + 1)))))) (n10_14, 1))
 else (up (some (decide (n10_14 = (y50_10.1.entries.length : Int)))))) (0, 0)))
 else (if (y50_10.1.entries.length : Int) = 0 then (some (decide ((y50_10.1.conflicts.length : Int) = 0)))
 else (some false))))) (fun k3 => (Sh.rectolaw14_Few b_0).bind (fun y19_4 =>
 if (!y19_4) = true then (k3 true)
 else ((Sh.rectolaw14_Few o_1).bind (fun y23_5 =>
 if (!y23_5) = true then (k3 true)
 else ((Sh.rectolaw14_Few t_2).bind (fun y28_6 =>
 if (!y28_6) = true then (k3 true)
 else ((Sh.rectolaw16_short b_0).bind (fun y33_7 =>
 if (!y33_7) = true then (k3 true)
 else ((Sh.rectolaw16_short o_1).bind (fun y38_8 =>
 if (!y38_8) = true then (k3 true)
 else ((Sh.rectolaw16_short t_2).bind (fun y43_9 =>
 k3 (!y43_9)))))))))))))))
end Go.S.Sh
end

section
namespace Go.Proofs
open Go.Shelf
def Tryz.lays156_ren : Go.Shelf.Ren := ⟨fun | 156 => 122 | 165 => 202 | 166 => 203 | 169 => 204 | 240 => 262 | 241 => 263 | 276 => 312 | 277 => 313 | n => n, fun | 31 => 32 | 9 => 9 | 3 => 3 | 4 => 4 | 0 => 0 | 20 => 20 | 72 => 274 | 76 => 62 | 70 => 272 | 37 => 61 | 75 => 27 | 127 => 343 | 164 => 260 | 5 => 5 | 80 => 177 | n => n, fun | n => n⟩
theorem Tryz.lays156 : Go.Proofs.Lays.n156 Tryz.prog Tryz.lays156_ren := {
  mixed := by kernel_rfl
  f156 := Tryz.func122.trans (congrArg some (by kernel_rfl))
  f165 := Tryz.func202.trans (congrArg some (by kernel_rfl))
  f166 := Tryz.func203.trans (congrArg some (by kernel_rfl))
  f169 := Tryz.func204.trans (congrArg some (by kernel_rfl))
  f240 := Tryz.func262.trans (congrArg some (by kernel_rfl))
  f241 := Tryz.func263.trans (congrArg some (by kernel_rfl))
  f276 := Tryz.func312.trans (congrArg some (by kernel_rfl))
  f277 := Tryz.func313.trans (congrArg some (by kernel_rfl))
  t0 := Tryz.underlying0
  a0 := Tryz.isAgg0
  z0 := Tryz.sizeOf0
  v0 := Tryz.zeroValue0
  t3 := Tryz.underlying3
  a3 := Tryz.isAgg3
  z3 := Tryz.sizeOf3
  v3 := Tryz.zeroValue3
  t4 := Tryz.underlying4
  a4 := Tryz.isAgg4
  z4 := Tryz.sizeOf4
  v4 := Tryz.zeroValue4
  t9 := Tryz.underlying9
  a9 := Tryz.isAgg9
  z9 := Tryz.sizeOf9
  v9 := Tryz.zeroValue9
  t20 := Tryz.underlying20
  a20 := Tryz.isAgg20
  z20 := Tryz.sizeOf20
  v20 := Tryz.zeroValue20
  t31 := Tryz.underlying32
  a31 := Tryz.isAgg32
  z31 := Tryz.sizeOf32
  v31 := Tryz.zeroValue32
  t37 := Tryz.underlying61
  a37 := Tryz.isAgg61
  z37 := Tryz.sizeOf61
  v37 := Tryz.zeroValue61
  t70 := Tryz.underlying272
  a70 := Tryz.isAgg272
  z70 := Tryz.sizeOf272
  v70 := Tryz.zeroValue272
  t72 := Tryz.underlying274
  a72 := Tryz.isAgg274
  z72 := Tryz.sizeOf274
  v72 := Tryz.zeroValue274
  t75 := Tryz.underlying27
  a75 := Tryz.isAgg27
  z75 := Tryz.sizeOf27
  v75 := Tryz.zeroValue27
  t76 := Tryz.underlying62
  a76 := Tryz.isAgg62
  z76 := Tryz.sizeOf62
  v76 := Tryz.zeroValue62
  t127 := Tryz.underlying343
  a127 := Tryz.isAgg343
  z127 := Tryz.sizeOf343
  v127 := Tryz.zeroValue343
  t164 := Tryz.underlying260
  a164 := Tryz.isAgg260
  z164 := Tryz.sizeOf260
  v164 := Tryz.zeroValue260 }
theorem Tryz.Builder_Extra_156 : Builder.Extra Tryz.prog Tryz.lays156_ren := {
  sizeBuilder := by kernel_rfl
  liesBuilder := by kernel_rfl
  t5 := Tryz.underlying5
  a5 := Tryz.isAgg5
  z5 := Tryz.sizeOf5
  v5 := Tryz.zeroValue5
  infoByte := by kernel_rfl
  cellsByte := by kernel_rfl
  sizeByte := by kernel_rfl
  neB5 := by decide }
open Go.RowKit in
/-- No element: the empty string; the world is as it was. (Whatever the slice's address and capacity: a nil slice too.) (LAID: no walk: one application.) -/
theorem Tryz.strings_Join_none (a : Option Addr) (c : Nat) (sep : ByteArray) (w : World) :
    Calls Tryz.prog 122 #[.slice a 0 c, .string sep] w fun e w' => e = .returned (.string ⟨#[]⟩) ∧ w' = w := Any.strings_Join_none Tryz.lays156 Tryz.Builder_Extra_156 a c sep w
open Go.RowKit in
/-- strings.Join: "Join concatenates the elements of its first argument to create a single string. The separator string sep is placed between elements in the resulting string.": HOWEVER MANY ELEMENTS. Below the heap's end the world is as it was. (LAID: no walk: one application.) -/
theorem Tryz.strings_Join (bk o c : Nat) (xs : List ByteArray) (sep : ByteArray) (w : World) (hcells : ∀ (j : Nat) x, xs[j]? = some x → w.cell? ⟨bk, o + j, none⟩ = some (.string x)) (hbk : bk < w.heap.size) (hN : xs.length ≤ 140737488355328) (hcap : xs.length ≤ c) (hlen : (Lib.join (xs.map (·.data.toList)) sep.data.toList).length ≤ 140737488355328) :
    Calls Tryz.prog 122 #[.slice (some ⟨bk, o, none⟩) xs.length c, .string sep] w fun e w' => e = .returned (.string ⟨(Lib.join (xs.map (·.data.toList)) sep.data.toList).toArray⟩) ∧ Below w.heap.size w w' := Any.strings_Join Tryz.lays156 Tryz.Builder_Extra_156 bk o c xs sep w hcells hbk hN hcap hlen
def Tryz.laysM171_ren : Go.Shelf.Ren := ⟨fun | 171 => 121 | 243 => 201 | 246 => 261 | 283 => 308 | 284 => 309 | 285 => 310 | 286 => 311 | 129 => 235 | 317 => 352 | 318 => 353 | 319 => 354 | 320 => 355 | 337 => 378 | 338 => 379 | n => n, fun | 3 => 3 | 9 => 9 | 2 => 2 | 4 => 4 | 171 => 380 | 0 => 0 | 53 => 304 | 37 => 61 | 5 => 5 | 173 => 382 | 212 => 418 | 51 => 302 | 20 => 20 | 213 => 419 | 46 => 220 | 232 => 455 | 233 => 456 | n => n, fun | 17 => 2 | 18 => 5 | 19 => 6 | n => n⟩
theorem Tryz.laysM171 : Go.Proofs.LaysM.n171 Tryz.prog Tryz.laysM171_ren := {
  mixed := by kernel_rfl
  f129 := Tryz.func235.trans (congrArg some (by kernel_rfl))
  f171 := Tryz.func121.trans (congrArg some (by kernel_rfl))
  f243 := Tryz.func201.trans (congrArg some (by kernel_rfl))
  f246 := Tryz.func261.trans (congrArg some (by kernel_rfl))
  f283 := Tryz.func308.trans (congrArg some (by kernel_rfl))
  f284 := Tryz.func309.trans (congrArg some (by kernel_rfl))
  f285 := Tryz.func310.trans (congrArg some (by kernel_rfl))
  f286 := Tryz.func311.trans (congrArg some (by kernel_rfl))
  f317 := Tryz.func352.trans (congrArg some (by kernel_rfl))
  f318 := Tryz.func353.trans (congrArg some (by kernel_rfl))
  f319 := Tryz.func354.trans (congrArg some (by kernel_rfl))
  f320 := Tryz.func355.trans (congrArg some (by kernel_rfl))
  f337 := Tryz.func378.trans (congrArg some (by kernel_rfl))
  f338 := Tryz.func379.trans (congrArg some (by kernel_rfl))
  t0 := Tryz.underlying0
  a0 := Tryz.isAgg0
  z0 := Tryz.sizeOf0
  v0 := Tryz.zeroValue0
  t2 := Tryz.underlying2
  a2 := Tryz.isAgg2
  z2 := Tryz.sizeOf2
  v2 := Tryz.zeroValue2
  t3 := Tryz.underlying3
  a3 := Tryz.isAgg3
  z3 := Tryz.sizeOf3
  v3 := Tryz.zeroValue3
  t4 := Tryz.underlying4
  a4 := Tryz.isAgg4
  z4 := Tryz.sizeOf4
  v4 := Tryz.zeroValue4
  t5 := Tryz.underlying5
  a5 := Tryz.isAgg5
  z5 := Tryz.sizeOf5
  v5 := Tryz.zeroValue5
  t9 := Tryz.underlying9
  a9 := Tryz.isAgg9
  z9 := Tryz.sizeOf9
  v9 := Tryz.zeroValue9
  t20 := Tryz.underlying20
  a20 := Tryz.isAgg20
  z20 := Tryz.sizeOf20
  v20 := Tryz.zeroValue20
  t37 := Tryz.underlying61
  a37 := Tryz.isAgg61
  z37 := Tryz.sizeOf61
  v37 := Tryz.zeroValue61
  t46 := Tryz.underlying220
  a46 := Tryz.isAgg220
  z46 := Tryz.sizeOf220
  v46 := Tryz.zeroValue220
  t51 := Tryz.underlying302
  a51 := Tryz.isAgg302
  z51 := Tryz.sizeOf302
  v51 := Tryz.zeroValue302
  t53 := Tryz.underlying304
  a53 := Tryz.isAgg304
  z53 := Tryz.sizeOf304
  v53 := Tryz.zeroValue304
  t171 := Tryz.underlying380
  a171 := Tryz.isAgg380
  z171 := Tryz.sizeOf380
  v171 := Tryz.zeroValue380
  t173 := Tryz.underlying382
  a173 := Tryz.isAgg382
  z173 := Tryz.sizeOf382
  v173 := Tryz.zeroValue382
  t212 := Tryz.underlying418
  a212 := Tryz.isAgg418
  z212 := Tryz.sizeOf418
  v212 := Tryz.zeroValue418
  t213 := Tryz.underlying419
  a213 := Tryz.isAgg419
  z213 := Tryz.sizeOf419
  t232 := Tryz.underlying455
  a232 := Tryz.isAgg455
  z232 := Tryz.sizeOf455
  v232 := Tryz.zeroValue455
  t233 := Tryz.underlying456
  a233 := Tryz.isAgg456
  z233 := Tryz.sizeOf456
  v233 := Tryz.zeroValue456
  g17 := by kernel_rfl
  g18 := by kernel_rfl
  g19 := by kernel_rfl
  i0 := by kernel_rfl
  i2 := by kernel_rfl
  i3 := by kernel_rfl
  i4 := by kernel_rfl
  i5 := by kernel_rfl
  i9 := by kernel_rfl
  i20 := by kernel_rfl
  i37 := by kernel_rfl
  i46 := by kernel_rfl
  i51 := by kernel_rfl
  i53 := by kernel_rfl
  i171 := by kernel_rfl
  i173 := by kernel_rfl
  i212 := by kernel_rfl
  i232 := by kernel_rfl
  i233 := by kernel_rfl
  m17 := by kernel_rfl
  m18 := by kernel_rfl
  m19 := by kernel_rfl }
open Go.RowKit Go.Sort Go.Lib in
/-- strconv.Itoa: "Itoa is equivalent to FormatInt(int64(i), 10).": i's DECIMAL NUMERAL ('Lib.itoa': a '-' where i is negative, then the digits), FOR EVERY int. The world behind the call: the world before it, new blocks behind the heap (the library's 'var a [24]byte'), draws. (LAID: no walk: one application.) -/
theorem Tryz.strconv_Itoa (n : Int) (h0 : -9223372036854775808 ≤ n) (h1 : n ≤ 9223372036854775807) (w : World) (htab : Lib.TabIs Tryz.prog w "internal/strconv.uint64pow10" .u64 Lib.pow10Tab) :
    Calls Tryz.prog 121 #[.int .i64 n] w fun e w' => e = .returned (.string ⟨(Lib.itoa n).toArray⟩) ∧ ∃ k os, w' = grow (w.drewN k) os := Any.strconv_Itoa Tryz.laysM171 n h0 h1 w htab
def Tryz.lays190_ren : Go.Shelf.Ren := ⟨fun | 190 => 73 | 125 => 152 | 258 => 151 | 128 => 234 | 129 => 235 | 302 => 225 | 303 => 226 | 304 => 227 | 305 => 228 | 306 => 229 | 307 => 230 | 308 => 231 | 309 => 232 | 310 => 233 | 333 => 286 | 329 => 287 | 330 => 288 | 334 => 289 | 335 => 290 | 336 => 279 | 344 => 329 | n => n, fun | 31 => 32 | 9 => 9 | 3 => 3 | 46 => 220 | 0 => 0 | 51 => 302 | 53 => 304 | 4 => 4 | 183 => 296 | 182 => 295 | 131 => 136 | 5 => 5 | 218 => 358 | 222 => 362 | 228 => 392 | 229 => 393 | n => n, fun | n => n⟩
theorem Tryz.lays190 : Go.Proofs.Lays.n190 Tryz.prog Tryz.lays190_ren := {
  mixed := by kernel_rfl
  f125 := Tryz.func152.trans (congrArg some (by kernel_rfl))
  f128 := Tryz.func234.trans (congrArg some (by kernel_rfl))
  f129 := Tryz.func235.trans (congrArg some (by kernel_rfl))
  f190 := Tryz.func73.trans (congrArg some (by kernel_rfl))
  f258 := Tryz.func151.trans (congrArg some (by kernel_rfl))
  f302 := Tryz.func225.trans (congrArg some (by kernel_rfl))
  f303 := Tryz.func226.trans (congrArg some (by kernel_rfl))
  f304 := Tryz.func227.trans (congrArg some (by kernel_rfl))
  f305 := Tryz.func228.trans (congrArg some (by kernel_rfl))
  f306 := Tryz.func229.trans (congrArg some (by kernel_rfl))
  f307 := Tryz.func230.trans (congrArg some (by kernel_rfl))
  f308 := Tryz.func231.trans (congrArg some (by kernel_rfl))
  f309 := Tryz.func232.trans (congrArg some (by kernel_rfl))
  f310 := Tryz.func233.trans (congrArg some (by kernel_rfl))
  f329 := Tryz.func287.trans (congrArg some (by kernel_rfl))
  f330 := Tryz.func288.trans (congrArg some (by kernel_rfl))
  f333 := Tryz.func286.trans (congrArg some (by kernel_rfl))
  f334 := Tryz.func289.trans (congrArg some (by kernel_rfl))
  f335 := Tryz.func290.trans (congrArg some (by kernel_rfl))
  f336 := Tryz.func279.trans (congrArg some (by kernel_rfl))
  f344 := Tryz.func329.trans (congrArg some (by kernel_rfl))
  t0 := Tryz.underlying0
  a0 := Tryz.isAgg0
  z0 := Tryz.sizeOf0
  v0 := Tryz.zeroValue0
  t3 := Tryz.underlying3
  a3 := Tryz.isAgg3
  z3 := Tryz.sizeOf3
  v3 := Tryz.zeroValue3
  t4 := Tryz.underlying4
  a4 := Tryz.isAgg4
  z4 := Tryz.sizeOf4
  v4 := Tryz.zeroValue4
  t5 := Tryz.underlying5
  a5 := Tryz.isAgg5
  z5 := Tryz.sizeOf5
  v5 := Tryz.zeroValue5
  t9 := Tryz.underlying9
  a9 := Tryz.isAgg9
  z9 := Tryz.sizeOf9
  v9 := Tryz.zeroValue9
  t31 := Tryz.underlying32
  a31 := Tryz.isAgg32
  z31 := Tryz.sizeOf32
  v31 := Tryz.zeroValue32
  t46 := Tryz.underlying220
  a46 := Tryz.isAgg220
  z46 := Tryz.sizeOf220
  v46 := Tryz.zeroValue220
  t51 := Tryz.underlying302
  a51 := Tryz.isAgg302
  z51 := Tryz.sizeOf302
  v51 := Tryz.zeroValue302
  t53 := Tryz.underlying304
  a53 := Tryz.isAgg304
  z53 := Tryz.sizeOf304
  v53 := Tryz.zeroValue304
  t131 := Tryz.underlying136
  a131 := Tryz.isAgg136
  z131 := Tryz.sizeOf136
  v131 := Tryz.zeroValue136
  t182 := Tryz.underlying295
  a182 := Tryz.isAgg295
  z182 := Tryz.sizeOf295
  v182 := Tryz.zeroValue295
  t183 := Tryz.underlying296
  a183 := Tryz.isAgg296
  z183 := Tryz.sizeOf296
  v183 := Tryz.zeroValue296
  t218 := Tryz.underlying358
  a218 := Tryz.isAgg358
  z218 := Tryz.sizeOf358
  v218 := Tryz.zeroValue358
  t222 := Tryz.underlying362
  a222 := Tryz.isAgg362
  z222 := Tryz.sizeOf362
  v222 := Tryz.zeroValue362
  t228 := Tryz.underlying392
  a228 := Tryz.isAgg392
  z228 := Tryz.sizeOf392
  v228 := Tryz.zeroValue392
  t229 := Tryz.underlying393
  a229 := Tryz.isAgg393
  z229 := Tryz.sizeOf393
  v229 := Tryz.zeroValue393 }
open Go.Sort Go.RowKit in
theorem Tryz.slices_Sort_string (blk off cap : Nat) (ss : List (List UInt8)) (w : World) (hH : Holds encStr w blk off ss.toArray) (hblk : blk < w.heap.size) (hsz : ss.length < 4611686018427387904) :
    Calls Tryz.prog 73 #[.slice (some ⟨blk, off, none⟩) ss.length cap] w fun e w' =>
      e = .returned (.tuple #[]) ∧ ∃ n os, w' = grow (putRow encStr (Sort.ahead w n) blk off (ss.mergeSort fun x y => decide (x ≤ y)).toArray) os := Any.slices_Sort_string Tryz.lays190 blk off cap ss w hH hblk hsz
def Tryz.lays194_ren : Go.Shelf.Ren := ⟨fun | 194 => 75 | n => n, fun | 31 => 32 | 9 => 9 | 3 => 3 | 4 => 4 | 0 => 0 | n => n, fun | n => n⟩
theorem Tryz.lays194 : Go.Proofs.Lays.n194 Tryz.prog Tryz.lays194_ren := {
  mixed := by kernel_rfl
  f194 := Tryz.func75.trans (congrArg some (by kernel_rfl))
  t0 := Tryz.underlying0
  a0 := Tryz.isAgg0
  z0 := Tryz.sizeOf0
  v0 := Tryz.zeroValue0
  t3 := Tryz.underlying3
  a3 := Tryz.isAgg3
  z3 := Tryz.sizeOf3
  v3 := Tryz.zeroValue3
  t4 := Tryz.underlying4
  a4 := Tryz.isAgg4
  z4 := Tryz.sizeOf4
  v4 := Tryz.zeroValue4
  t9 := Tryz.underlying9
  a9 := Tryz.isAgg9
  z9 := Tryz.sizeOf9
  v9 := Tryz.zeroValue9
  t31 := Tryz.underlying32
  a31 := Tryz.isAgg32
  z31 := Tryz.sizeOf32
  v31 := Tryz.zeroValue32 }
open Go.RowKit Go.Lib Go.Sort in
/-- slices.Compact at []string, over an array: the library's two loops are walked. (LAID: no walk: one application.) -/
theorem Tryz.slices_Compact_string_arr (blk off cap : Nat) (d : Array (List UInt8)) (w : World) (hH : Holds encStr w blk off d) (hsz : d.size ≤ 9223372036854775807) (hcap : d.size ≤ cap) :
    Calls Tryz.prog 75 #[.slice (some ⟨blk, off, none⟩) d.size cap] w fun e w' => e = .returned (.slice (some ⟨blk, off, none⟩) (compactUpTo d d.size).length cap) ∧ ∃ q, w' = putRow encStr (Sort.ahead w q) blk off (compactUpTo d d.size ++ List.replicate (d.size - (compactUpTo d d.size).length) []).toArray := Any.slices_Compact_string_arr Tryz.lays194 blk off cap d w hH hsz hcap
open Go.RowKit Go.Lib Go.Sort in
/-- slices.Compact at []string: "Compact replaces consecutive runs of equal elements with a single copy. This is like the uniq command found on Unix. Compact modifies the contents of the slice s and returns the modified slice, which may have a smaller length. Compact zeroes the elements between the new length and the original length. The result preserves the nilness of s.": IT RETURNS THE SLICE CUT TO 'Lib.compact zs'; ITS CELLS HOLD 'Lib.compact zs', THEN ZERO VALUES up to the old length; all else is as it was, but for the count of draws. IN THE WORDS OF slices.Sort's CONTRACT ('Holds', 'putRow'): so the everyday 'slices.Sort(xs); xs = slices.Compact(xs)' goes from the one contract to the other. It asks 'zs.length ≤ cap' (every slice's: the reslicing 's[:k]' looks at it). Length 0, nil: '.._empty'. (LAID: no walk: one application.) -/
theorem Tryz.slices_Compact_string (blk off cap : Nat) (zs : List (List UInt8)) (w : World) (hH : Holds encStr w blk off zs.toArray) (hsz : zs.length ≤ 9223372036854775807) (hcap : zs.length ≤ cap) :
    Calls Tryz.prog 75 #[.slice (some ⟨blk, off, none⟩) zs.length cap] w fun e w' => e = .returned (.slice (some ⟨blk, off, none⟩) (Lib.compact zs).length cap) ∧ ∃ q, w' = putRow encStr (Sort.ahead w q) blk off (Lib.compact zs ++ List.replicate (zs.length - (Lib.compact zs).length) []).toArray := Any.slices_Compact_string Tryz.lays194 blk off cap zs w hH hsz hcap
open Go.RowKit Go.Lib Go.Sort in
/-- The same at a slice of length 0, a nil one too: it comes back as it is. (LAID: no walk: one application.) -/
theorem Tryz.slices_Compact_string_empty (a : Option Addr) (cap : Nat) (w : World) :
    Calls Tryz.prog 75 #[.slice a 0 cap] w fun e w' => e = .returned (.slice a 0 cap) ∧ w' = w := Any.slices_Compact_string_empty Tryz.lays194 a cap w
open Go.RowKit Go.Sort in
/-- .. and plain. (LAID: no walk: one application.) -/
theorem Tryz.slices_Sort_string_none (p : Option Addr) (cap : Nat) (w : World) :
    Calls Tryz.prog 73 #[.slice p 0 cap] w fun e w' => e = .returned (.tuple #[]) ∧ w' = w := Any.slices_Sort_string_none Tryz.lays190 p cap w
end Go.Proofs
end

section
namespace Go.Proofs
open Go.Shelf
def Tryz.keys181_ren : Go.Shelf.Ren := ⟨fun | 7 => 181 | 10 => 253 | n => n, fun | 23 => 248 | 26 => 9 | 3 => 4 | 28 => 251 | 0 => 0 | 27 => 250 | 33 => 127 | 4 => 4 | n => n, fun | n => n⟩
theorem Tryz.keys181 : Go.Proofs.SlLaysZ.n7 Tryz.prog Tryz.keys181_ren := {
  mixed := by kernel_rfl
  f7 := ⟨Tryz.f181.name, by decide, Tryz.func181.trans (congrArg some (by kernel_rfl))⟩
  f10 := ⟨Tryz.f253.name, by decide, Tryz.func253.trans (congrArg some (by kernel_rfl))⟩
  t0 := Tryz.underlying0
  a0 := Tryz.isAgg0
  z0 := Tryz.sizeOf0
  v0 := Tryz.zeroValue0
  t4 := Tryz.underlying4
  a4 := Tryz.isAgg4
  z4 := Tryz.sizeOf4
  v4 := Tryz.zeroValue4
  t23 := Tryz.underlying248
  a23 := Tryz.isAgg248
  z23 := Tryz.sizeOf248
  v23 := Tryz.zeroValue248
  t26 := Tryz.underlying9
  a26 := Tryz.isAgg9
  z26 := Tryz.sizeOf9
  v26 := Tryz.zeroValue9
  t27 := Tryz.underlying250
  a27 := Tryz.isAgg250
  z27 := Tryz.sizeOf250
  v27 := Tryz.zeroValue250
  t28 := Tryz.underlying251
  a28 := Tryz.isAgg251
  z28 := Tryz.sizeOf251
  v28 := Tryz.zeroValue251
  t33 := Tryz.underlying127
  a33 := Tryz.isAgg127
  z33 := Tryz.sizeOf127
  v33 := Tryz.zeroValue127 }
def Tryz.sorted180_ren : Go.Shelf.Ren := ⟨fun | 6 => 180 | 8 => 252 | 9 => 73 | 11 => 302 | 13 => 152 | 12 => 151 | 23 => 234 | 24 => 235 | 14 => 225 | 15 => 226 | 16 => 227 | 17 => 228 | 18 => 229 | 19 => 230 | 20 => 231 | 21 => 232 | 22 => 233 | 25 => 286 | 26 => 287 | 27 => 288 | 28 => 289 | 29 => 290 | 30 => 279 | 31 => 329 | n => n, fun | 26 => 9 | 28 => 251 | 24 => 32 | 0 => 0 | 3 => 3 | 37 => 220 | 48 => 302 | 50 => 304 | 4 => 4 | 40 => 296 | 39 => 295 | 45 => 136 | 5 => 5 | 9 => 9 | 51 => 358 | 55 => 362 | 57 => 392 | 58 => 393 | 33 => 127 | n => n, fun | n => n⟩
theorem Tryz.sorted180 : Go.Proofs.SlLaysZ.n6 Tryz.prog Tryz.sorted180_ren := {
  mixed := by kernel_rfl
  f6 := ⟨Tryz.f180.name, by decide, Tryz.func180.trans (congrArg some (by kernel_rfl))⟩
  f8 := ⟨Tryz.f252.name, by decide, Tryz.func252.trans (congrArg some (by kernel_rfl))⟩
  f11 := ⟨Tryz.f302.name, by decide, Tryz.func302.trans (congrArg some (by kernel_rfl))⟩
  t0 := Tryz.underlying0
  a0 := Tryz.isAgg0
  z0 := Tryz.sizeOf0
  v0 := Tryz.zeroValue0
  t24 := Tryz.underlying32
  a24 := Tryz.isAgg32
  z24 := Tryz.sizeOf32
  v24 := Tryz.zeroValue32
  t26 := Tryz.underlying9
  a26 := Tryz.isAgg9
  z26 := Tryz.sizeOf9
  v26 := Tryz.zeroValue9
  t28 := Tryz.underlying251
  a28 := Tryz.isAgg251
  z28 := Tryz.sizeOf251
  v28 := Tryz.zeroValue251
  i26 := by kernel_rfl }
def Tryz.sort73_ren : Go.Shelf.Ren := ⟨fun | 6 => 73 | 8 => 152 | 9 => 151 | 19 => 234 | 20 => 235 | 21 => 225 | 22 => 226 | 23 => 227 | 24 => 228 | 25 => 229 | 26 => 230 | 27 => 231 | 28 => 232 | 29 => 233 | 36 => 286 | 31 => 287 | 32 => 288 | 37 => 289 | 38 => 290 | 39 => 279 | 41 => 329 | n => n, fun | 27 => 32 | 29 => 9 | 3 => 3 | 32 => 220 | 26 => 32 | 0 => 0 | 44 => 302 | 46 => 304 | 4 => 4 | 36 => 296 | 35 => 295 | 41 => 136 | 5 => 5 | 9 => 9 | 53 => 358 | 57 => 362 | 63 => 392 | 64 => 393 | n => n, fun | n => n⟩
theorem Tryz.sort73 : Go.Proofs.SlLaysM.n6 Tryz.prog Tryz.sort73_ren := {
  mixed := by kernel_rfl
  f6 := ⟨Tryz.f73.name, by decide, Tryz.func73.trans (congrArg some (by kernel_rfl))⟩
  f8 := Tryz.func152.trans (congrArg some (by kernel_rfl))
  f9 := ⟨Tryz.f151.name, by decide, Tryz.func151.trans (congrArg some (by kernel_rfl))⟩
  f19 := Tryz.func234.trans (congrArg some (by kernel_rfl))
  f20 := Tryz.func235.trans (congrArg some (by kernel_rfl))
  f21 := ⟨Tryz.f225.name, by decide, Tryz.func225.trans (congrArg some (by kernel_rfl))⟩
  f22 := ⟨Tryz.f226.name, by decide, Tryz.func226.trans (congrArg some (by kernel_rfl))⟩
  f23 := ⟨Tryz.f227.name, by decide, Tryz.func227.trans (congrArg some (by kernel_rfl))⟩
  f24 := ⟨Tryz.f228.name, by decide, Tryz.func228.trans (congrArg some (by kernel_rfl))⟩
  f25 := ⟨Tryz.f229.name, by decide, Tryz.func229.trans (congrArg some (by kernel_rfl))⟩
  f26 := ⟨Tryz.f230.name, by decide, Tryz.func230.trans (congrArg some (by kernel_rfl))⟩
  f27 := ⟨Tryz.f231.name, by decide, Tryz.func231.trans (congrArg some (by kernel_rfl))⟩
  f28 := ⟨Tryz.f232.name, by decide, Tryz.func232.trans (congrArg some (by kernel_rfl))⟩
  f29 := ⟨Tryz.f233.name, by decide, Tryz.func233.trans (congrArg some (by kernel_rfl))⟩
  f31 := Tryz.func287.trans (congrArg some (by kernel_rfl))
  f32 := Tryz.func288.trans (congrArg some (by kernel_rfl))
  f36 := ⟨Tryz.f286.name, by decide, Tryz.func286.trans (congrArg some (by kernel_rfl))⟩
  f37 := ⟨Tryz.f289.name, by decide, Tryz.func289.trans (congrArg some (by kernel_rfl))⟩
  f38 := ⟨Tryz.f290.name, by decide, Tryz.func290.trans (congrArg some (by kernel_rfl))⟩
  f39 := ⟨Tryz.f279.name, by decide, Tryz.func279.trans (congrArg some (by kernel_rfl))⟩
  f41 := ⟨Tryz.f329.name, by decide, Tryz.func329.trans (congrArg some (by kernel_rfl))⟩
  t0 := Tryz.underlying0
  a0 := Tryz.isAgg0
  z0 := Tryz.sizeOf0
  v0 := Tryz.zeroValue0
  t3 := Tryz.underlying3
  a3 := Tryz.isAgg3
  z3 := Tryz.sizeOf3
  v3 := Tryz.zeroValue3
  t4 := Tryz.underlying4
  a4 := Tryz.isAgg4
  z4 := Tryz.sizeOf4
  v4 := Tryz.zeroValue4
  t5 := Tryz.underlying5
  a5 := Tryz.isAgg5
  z5 := Tryz.sizeOf5
  v5 := Tryz.zeroValue5
  t9 := Tryz.underlying9
  a9 := Tryz.isAgg9
  z9 := Tryz.sizeOf9
  v9 := Tryz.zeroValue9
  t26 := Tryz.underlying32
  a26 := Tryz.isAgg32
  z26 := Tryz.sizeOf32
  v26 := Tryz.zeroValue32
  t27 := Tryz.underlying32
  a27 := Tryz.isAgg32
  z27 := Tryz.sizeOf32
  v27 := Tryz.zeroValue32
  t29 := Tryz.underlying9
  a29 := Tryz.isAgg9
  z29 := Tryz.sizeOf9
  v29 := Tryz.zeroValue9
  t32 := Tryz.underlying220
  a32 := Tryz.isAgg220
  z32 := Tryz.sizeOf220
  v32 := Tryz.zeroValue220
  t35 := Tryz.underlying295
  a35 := Tryz.isAgg295
  z35 := Tryz.sizeOf295
  v35 := Tryz.zeroValue295
  t36 := Tryz.underlying296
  a36 := Tryz.isAgg296
  z36 := Tryz.sizeOf296
  v36 := Tryz.zeroValue296
  t41 := Tryz.underlying136
  a41 := Tryz.isAgg136
  z41 := Tryz.sizeOf136
  v41 := Tryz.zeroValue136
  t44 := Tryz.underlying302
  a44 := Tryz.isAgg302
  z44 := Tryz.sizeOf302
  v44 := Tryz.zeroValue302
  t46 := Tryz.underlying304
  a46 := Tryz.isAgg304
  z46 := Tryz.sizeOf304
  v46 := Tryz.zeroValue304
  t53 := Tryz.underlying358
  a53 := Tryz.isAgg358
  z53 := Tryz.sizeOf358
  v53 := Tryz.zeroValue358
  t57 := Tryz.underlying362
  a57 := Tryz.isAgg362
  z57 := Tryz.sizeOf362
  v57 := Tryz.zeroValue362
  t63 := Tryz.underlying392
  a63 := Tryz.isAgg392
  z63 := Tryz.sizeOf392
  v63 := Tryz.zeroValue392
  t64 := Tryz.underlying393
  a64 := Tryz.isAgg393
  z64 := Tryz.sizeOf393
  v64 := Tryz.zeroValue393 }
open Go.RowKit Go.Maps Go.Sort
theorem Tryz.sorts180 (m : Nat) : AnyZ.SortsIn Tryz.prog Tryz.sorted180_ren Fence.wide m :=
  ⟨fun blk off cap ss W hH hblk hsz => callsIn_wide.2 (AnyM.slices_Sort_string Tryz.sort73 blk off cap ss W hH hblk hsz),
   fun p cap W => callsIn_wide.2 (AnyM.slices_Sort_string_none Tryz.sort73 p cap W)⟩
theorem Tryz.maps_Keys_181 (mb : Option Nat) (W : World) : CallsIn Fence.wide 5 Tryz.prog 181 #[.map mb] W fun e w' => e = .returned (.func (.func 253) #[] #[.pointer (some ⟨W.heap.size, 0, none⟩)]) ∧ w' = W.alloc (.cells #[.map mb] 248) :=
  AnyZ.keys_in Tryz.keys181 Fence.wide 5 trivial rfl mb W
set_option maxHeartbeats 1000000 in
theorem Tryz.sortedKeys_180_181 (Bm b nn : Nat) (D0 : DataW Unit) (R : Value → Option (DataW Unit × List MemPlace)) (w : World) (hBm : Bm < w.heap.size) (hm : w.cell? ⟨Bm, 0, none⟩ = some (.map (some b))) (hown : w.ownsMap Tryz.prog 9 R b nn D0) (hmax : Maps.size D0 ≤ maxLen) (hbytes : Maps.size D0 * 16 ≤ 140737488355328) :
    Calls Tryz.prog 180 #[.func (.func 253) #[] #[.pointer (some ⟨Bm, 0, none⟩)]] w fun e w' => ∃ (v : Value) (ss : List (List UInt8)), e = .returned v ∧ ss.Perm (strKeys D0) ∧
      w'.ownsRow w.heap.size 9 1 v ss.length ((ss.mergeSort (fun x y => decide (x ≤ y))).map encStr) ∧ (v = .slice none 0 0 ↔ ss = []) ∧ Below w.heap.size w w' := by
  have hseq : SeqGives Fence.wide 2 Tryz.prog 253 #[.pointer (some ⟨Bm, 0, none⟩)] encStr (fun ss => ss.Perm (strKeys D0)) (Maps.size D0) w :=
    AnyZ.keys_gives (ρ := Tryz.keys181_ren) { Tryz.keys181 with } Fence.wide _ trivial rfl (by omega) Bm b nn D0 _ hBm hm hown
  exact (callsIn_wide (n := 5)).1 (AnyZ.sorted_in Tryz.sorted180 Fence.wide 5 trivial trivial trivial trivial rfl (by omega) (Tryz.sorts180 _) (enters_of Tryz.func73 (by kernel_rfl) rfl) 253 #[.pointer (some ⟨Bm, 0, none⟩)] trivial (enters_of Tryz.func253 (by kernel_rfl) rfl) _ _ hmax hbytes _ hseq)
theorem Tryz.mapsKeys_181 (mb : Option Nat) (W : World) : Calls Tryz.prog 181 #[.map mb] W fun e w' => e = .returned (.func (.func 253) #[] #[.pointer (some ⟨W.heap.size, 0, none⟩)]) ∧ w' = W.alloc (.cells #[.map mb] 248) :=
  (callsIn_wide (n := 5)).1 (Tryz.maps_Keys_181 mb W)
end Go.Proofs
end

section
namespace Go.V
open Go.RowKit
open Go.S hiding Str
instance : ErNo := ⟨105, 104⟩
instance : Dat FilesFile := ⟨3, fun x => [str x.path, i64 x.mode, str x.data], fun _ => rfl, fun _ u h => by simp only [List.mem_cons, List.not_mem_nil, or_false] at h; rcases h with rfl | rfl | rfl <;> first | rfl | exact Er.one _, fun _ => Mo.tt⟩
instance : Flat FilesFile := ⟨fun _ => rfl⟩
instance : Dat IndexEntry := ⟨6, fun x => [str x.path, i64 x.stage, i64 x.mode, str x.data, i64 x.time, i64 x.size], fun _ => rfl, fun _ u h => by simp only [List.mem_cons, List.not_mem_nil, or_false] at h; rcases h with rfl | rfl | rfl | rfl | rfl | rfl <;> first | rfl | exact Er.one _, fun _ => Mo.tt⟩
instance : Flat IndexEntry := ⟨fun _ => rfl⟩
structure TmergeResult where
  files : Sv FilesFile
  entries : Sv IndexEntry
  conflicts : Sv Str
@[reducible] def TmergeResult.m (x : TmergeResult) : Mo := (x.files.ok.and (x.entries.ok.and x.conflicts.ok))
def TmergeResult.pl (x : TmergeResult) : TmergeResultP := ⟨x.files.l, x.entries.l, x.conflicts.l⟩
instance : Dat TmergeResult := ⟨3, fun x => [x.files.val, x.entries.val, x.conflicts.val], fun _ => rfl, fun _ u h => by simp only [List.mem_cons, List.not_mem_nil, or_false] at h; rcases h with rfl | rfl | rfl <;> first | rfl | exact Er.one _, TmergeResult.m⟩
instance : Dat TmergeOne := ⟨4, fun x => [str x.file_path, i64 x.file_mode, str x.file_data, .bool x.is], fun _ => rfl, fun _ u h => by simp only [List.mem_cons, List.not_mem_nil, or_false] at h; rcases h with rfl | rfl | rfl | rfl <;> first | rfl | exact Er.one _, fun _ => Mo.tt⟩
instance : Flat TmergeOne := ⟨fun _ => rfl⟩
structure DiffTable where
  a : Sv Str
  b : Sv Str
  n : Sv Int
@[reducible] def DiffTable.m (x : DiffTable) : Mo := (x.a.ok.and (x.b.ok.and x.n.ok))
def DiffTable.pl (x : DiffTable) : DiffTableP := ⟨x.a.l, x.b.l, x.n.l⟩
instance : Dat DiffTable := ⟨3, fun x => [x.a.val, x.b.val, x.n.val], fun _ => rfl, fun _ u h => by simp only [List.mem_cons, List.not_mem_nil, or_false] at h; rcases h with rfl | rfl | rfl <;> first | rfl | exact Er.one _, DiffTable.m⟩
instance : Dat DiffEdit := ⟨2, fun x => [i64 x.op, str x.line], fun _ => rfl, fun _ u h => by simp only [List.mem_cons, List.not_mem_nil, or_false] at h; rcases h with rfl | rfl <;> first | rfl | exact Er.one _, fun _ => Mo.tt⟩
instance : Flat DiffEdit := ⟨fun _ => rfl⟩
instance : Dat DiffMatch := ⟨3, fun x => [i64 x.a, i64 x.b, i64 x.n], fun _ => rfl, fun _ u h => by simp only [List.mem_cons, List.not_mem_nil, or_false] at h; rcases h with rfl | rfl | rfl <;> first | rfl | exact Er.one _, fun _ => Mo.tt⟩
instance : Flat DiffMatch := ⟨fun _ => rfl⟩
end Go.V
end
